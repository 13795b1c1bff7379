/- A part of the proof that the named laws of this program answer true, whatever the input. -/
import Derived.Test.YtncppacbfagpgaaGreatDoorPart6
import Derived.Test.YtncppacbfagpgaaGreatDoorPart4
import Derived.Test.YtncppacbfagpgaaGreatDoorPart5
open Array renaming length_toList→qg
open List renaming getElem?_eq_getElem→af,getElem?_eq_none→lG,cons→ft,append_nil→aL,append_assoc→aq,length_append→ac,flatMap_cons→aN,map_append→cO,map_map→sP,map_congr_left→qf,mem_map→fC,take_append_drop→aO,flatMap_append→bI,flatMap_nil→jA,mem_cons→aC,length_cons→ar,map_nil→iK,length_nil→aM,length_eq_zero_iff→aA,length_pos_iff→iR,not_mem_nil→im,getElem_cons_zero→gB,mem_cons_self→au,pairwise_cons→aF,sublist_cons_self→nz,mem_cons_of_mem→aE,length_take→aQ,mem_append→bC,mem_singleton→aD,nil_append→cN,getElem_of_mem→bQ,pairwise_iff_getElem→cn
open List.Lex renaming nil→zN
open Nat renaming le_trans→aX,lt_of_lt_of_le→aG,le_refl→aj,zero_le→aS,succ_pos→pU,pow_add→ry,mul_comm→kM,mul_assoc→uq,mul_le_mul_left→gJ
open Option renaming some→bO
open Prod renaming mk→qG
namespace Go.Proofs
open Go Go.Lift
def Lo(p:Pr):Pr:=(yz p.1,yz p.2)
structure Few(n:Nat)(L:List Pr):Prop where
 up:bM L
 len:L.length≤n
 fit:∀p∈L,p.1.size≤30∧p.2.size≤30
theorem Few.ins{n:Nat}{L:List Pr}(f:Few n L)(p:Pr)(b:p.1.size≤30)(h2:p.2.size≤30):Few (n+1) (iq p L):=
 ⟨vM p f.up,aX (BD p) (by have:=f.len;omega),fun q a=>(AF a).elim (fun e=>by rw[e];exact⟨b,h2⟩) fun h=>f.fit q h⟩
theorem Few.fits{n:Nat}{L:List Pr}(f:Few n L):Fit L:=fun p a=>by have:=f.fit p a;omega
end Go.Proofs
namespace Go.Proofs
open Go Go.Lift
theorem Sl.det{α:Type}{f:α→List Value}{c:Nat}{W W':Nat→Prop}{h:ad}{s:SliceV}{xs ys:List α}(hi:∀x y,f x=f y→x=y)(a:Sl f c W h s xs)(b:Sl f c W' h s ys):xs=ys:=by
 apply List.ext_getElem
 ·rw[←a.len,←b.len]
 ·intro i k h2
  refine hi _ _ (List.ext_getElem? fun j=>?_)
  obtain⟨p,n,_,hv⟩:=a.at (af k);obtain⟨q,d,_,m⟩:=b.at (af h2);rw[n]at d;cases d;have t:=(a.ne xs[i]).1;have u:=(b.ne ys[i]).1;by_cases o:j<c
  ·have g:=hv j _ (af (by omega))
   have e:=m j _ (af (by omega));rw[g]at e;rw[af (by omega),af (by omega)];exact e
  ·rw[lG (by omega),lG (by omega)]
theorem UE(x y:Pr)(h:ey x=ey y):x=y:=by
 simp only[ey,ft.injEq,Value.string.injEq,and_true]at h;exact Prod.ext h.1 h.2
theorem Z8(x y:Option Addr)(h:uy x=uy y):x=y:=by
 simpa[uy]using h
theorem Uw(x y:Option Addr)(h:rJ x=rJ y):x=y:=by
 simpa[rJ]using h
theorem Mu{d j n n':Nat}{sp sk a b:SliceV}{p c:Bool}{ow e:Option Addr}(h:gc d n sp sk p ow=gc j n' a b c e):d=j∧n=n'∧sp=a∧sk=b:=by
 simp only[gc,Array.mk.injEq,ft.injEq,Value.int.injEq,true_and,sv,Value.slice.injEq,Value.bool.injEq,Value.pointer.injEq,and_true]at h;obtain⟨q,h2,⟨k,i,g⟩,⟨m,o,f⟩,_⟩:=h;refine⟨by omega,by omega,?_,?_⟩
 ·cases sp;cases a;simp only at k i g;subst k i g;rfl
 ·cases sk;cases b;simp only at m o f;subst m o f;rfl
theorem Iu{W W':Nat→Prop}{x:Hs}{h:ad}:∀{m b:Nat} {l l':List Pr},TrieAt W x h m b l→TrieAt W' x h m b l'→bM l→bM l'→l=l'
 |0,b,l,l',t,t',_,_=>by
  obtain⟨sp,sk,ow,u,o,_⟩:=t.ex;obtain⟨k,i,v,a,g,_⟩:=t'.ex;rw[u]at a;simp only[bO.injEq,Obj.cells.injEq,and_true]at a;obtain⟨_,_,rfl,_⟩:=Mu a;exact Sl.det UE o g
 |m+1,b,l,l',⟨s,nd,hc⟩,⟨s',nd',hc'⟩,hr,hr'=>by
  obtain⟨d,n,sp,sk,ow,u,bits,o,C,_⟩:=nd.ex;obtain⟨J,n',k,i,v,a,e,g,j,_⟩:=nd'.ex;rw[u]at a;simp only[bO.injEq,Obj.cells.injEq,and_true]at a;obtain⟨rfl,rfl,rfl,rfl⟩:=Mu a;have F:=JC 32 (fun c hc=>by rw[←bits.dp c hc,e.dp c hc]) (Sl.det UE o g)
  have G:=JC 32 (fun c hc=>by rw[←bits.nk c hc,e.nk c hc]) (Sl.det Z8 C j)
  refine PP (x:=x) (lev:=12-m) hr hr' fun c f=>?_
  have t1:=hc c f;have t2:=hc' c f;rw[←F c f,←G c f]at t2;rcases t1 with⟨z,h2,y⟩|⟨p,z,h2,y⟩|⟨z,h2,I,y,D⟩<;>rcases t2 with⟨A,B,w⟩|⟨q,A,B,w⟩|⟨A,B,H,w,E⟩<;>simp_all
  exact Iu D E (jl hr) (jl hr')
theorem Ux{sl a v e:ByteArray}{b b':Bool}{s s':SliceV}{ow c:Option Addr}(h:Ft sl b v s ow=Ft a b' e s' c):sl=a∧b=b'∧v=e∧s=s':=by
 simp only[Ft,Array.mk.injEq,ft.injEq,Value.string.injEq,sv,Value.slice.injEq,Value.bool.injEq,Value.pointer.injEq,and_true]at h;obtain⟨i,h2,j,⟨f,g,d⟩,_⟩:=h;refine⟨i,h2,j,?_⟩;cases s;cases s';simp only at f g d;subst f g d;rfl
theorem UH{w a:Option ByteArray}{v:ByteArray}(h:w.isSome=a.isSome)(b:v=w.getD ⟨#[]⟩)(h2:v=a.getD ⟨#[]⟩):w=a:=by
 cases w<;>cases a<;>simp_all
theorem RN{W W':Nat→Prop}{h:ad}:∀{F F':Fo} {ks:List (Option Addr)},RxF W h F ks→RxF W' h F' ks→F=F'
 | .nil,.nil,_,_,_=>rfl
 | .nil,.cons ..,ks,d,h2=>by
  obtain⟨b,sl,val,s,ow,e,c,a,_⟩:=h2;have d:ks= []:=d;rw[d]at a;cases a
 | .cons ..,.nil,ks,d,h2=>by
  obtain⟨b,sl,val,s,ow,e,c,a,_⟩:=d;have h2:ks= []:=h2;rw[h2]at a;cases a
 | .cons lab w kids rest,.cons lab' w' kids' rest',ks,⟨b,sl,val,s,ow,e,c,a,e1,e2,e3,e4,e5,e6,e7⟩,⟨b',sl',val',s',ow',ks1',ks'',f0,f1,f2,f3,f4,f5,f6,f7⟩=>by
  rw[a]at f0;simp only[ft.injEq,bO.injEq,Addr.mk.injEq,and_true]at f0;obtain⟨rfl,rfl⟩:=f0;rw[e2]at f2;simp only[bO.injEq,Obj.cells.injEq,and_true]at f2;obtain⟨rfl,f,rfl,rfl⟩:=Ux f2;have:=Sl.det Uw e4 f4;subst this;rw[RN e6 f6,RN e7 f7,←e1,←f1,UH f e3 f3]
end Go.Proofs
namespace Go.Proofs
open Go Go.Lift
theorem Sg{h:ad}{b:Nat}{c:Array Value}{t:TypeId}(a:h[b]? =some (.cells c t (0,0))) (hc:0<c.size):gV h ⟨b,0,none⟩:=⟨c,t,a,hc⟩
theorem TrieAt.plain{W:Nat→Prop}{x:Hs}{h:ad}:∀{m b:Nat} {l:List Pr},TrieAt W x h m b l→gV h ⟨b,0,none⟩
 |0,_,_,t=>by obtain⟨_,_,_,a,_⟩:=BuckAt.ex t;exact Sg a (by simp[gc])
 |m+1,_,_,⟨s,nd,_⟩=>by obtain⟨_,_,_,_,_,a,_⟩:=nd.ex;exact Sg a (by simp[gc])
theorem Ur{W Wx:Nat→Prop}{x:Hs}{h:ad}{m b:Nat}{s:Slots}{c:Nat}{l:List Pr}(u:NodeAt W h b s)(hc:c<32)(sl:SlotIs W x h m s c l)(hm:m≤13)(B:bM l)(A:l.length≤100000)(f:∀y,Wx y→y<h.size){K:SliceV→ad→Prop}
  (o:∀s' h',Sl ey 2 Wx h' s' l→s'.len≤s'.cap→Upd No h h'→K s' h'):HC PG w7 [.pointer (some ⟨b,0,none⟩),.int .i64 c] [.c .slice] K h:=by
 refine Q1 _ c ?_;unfold Hz nv av lO iU vl wT;refine AE u hc fun H k1=>?_
 refine tl fun h2 b2 E=>?_
 have a:=k1.tr E;have g:s.p c=none→Below W x h m ((s.k c).getD none) l:=fun d=>by
  rcases sl with⟨rfl,_,e⟩|⟨p,_,e,_⟩|⟨_,_,z,e,t⟩
  ·rw[e];exact .inl ⟨rfl,rfl⟩
  ·rw[d]at e;cases e
  ·rw[e];exact .inr ⟨z,rfl,t⟩
 rcases d:s.p c with _|p
 ·refine ag.2 (wU (u.upd a fun _ h=>h.elim) hc ?_)
  exact B8 (W':=Wx) ((g d).upd0 a) hm B A (fun y w=>aG (f y w) a.size) fun D i j n k=>o D i j n (a.tr k)
 ·have G:l= [p]:=by
   rcases sl with⟨_,e,_⟩|⟨q,e,v,_⟩|⟨_,e,_⟩
   ·rw[d]at e;cases e
   ·rw[d]at v;cases v;exact e
   ·rw[d]at e;cases e
  subst G;rw[d]at b2;refine aw.2 ⟨p.1,vc b2 0,p.2,vc b2 1,aP fun i b3 k=>?_⟩
  have C:OwnS ey 2 al (fun y=>h.size≤y) i ⟨some (ay h2),1,1⟩ [p]:=⟨rfl,fU,aj _,.inr ⟨h2.size,[],rfl,a.size,b3,rfl⟩⟩
  exact o _ i (C.sl fun y w _ F=>by have:=f y F;omega) (aj _) (a.tr k)
theorem Xr{W:Nat→Prop}{x z:Hs}{v:Nat}:∀(m:Nat),m≤13→∀{b b':Nat} {l l':List Pr} {C:Nat→Prop} {h:ad} {L:List Ch},TrieAt W x h m b l→TrieAt W x h m b' l'→SetAt C h v z L→(∀y,C y∨y=v→W y)→(∀y,h.size≤y→W y)→bM l→bM l'→l.length≤100000→l'.length≤100000→L.length+(m+1)*200000≤10000000→
  ∀{K:Unit→ad→Prop},(∀ys,ys.Perm (jN l l')→WN C h v z (L++ys) (K ()))→HC PG pI [.pointer (some ⟨v,0,none⟩),.pointer (some ⟨b,0,none⟩),.pointer (some ⟨b',0,none⟩)] [] K h:=by
 intro m;induction m with
 |zero=>
  intro hm b b' l l' C h L t S st B T J q hn hn' hL K hk;refine yG _ _ _ ?_;unfold tV vl Vr Nr;refine⟨trivial,fun a a' e e'=>by cases e;cases e';exact⟨t.plain,S.plain⟩,CondP.intro (fun e=>?_) fun e=>?_⟩
  ·obtain rfl:b=b':=by simpa using e
   obtain rfl:=Iu t S J q;refine hk [] (by rw[EA]) h C (by rw[aL];exact st) (fun _ h=>.inl h) (Upd.refl _ _)
  ·obtain⟨sp,sk,ow,hb,hsp,_⟩:=BuckAt.ex t
   obtain⟨sp',sk',ow',hb',hsp',_⟩:=BuckAt.ex S;refine gL hb (aw.2 ?_);refine rO hb hsp (by omega) fun s1 D ho1 k1=>?_
   refine rO (k1.get0 hb') (hsp'.upd k1 fun _ h=>h.elim) (by omega) fun s2 h2 Z k2=>?_
   have s1z:=k1.size;obtain⟨_,N,_⟩:=st.ex;have zsb:=aY N;have ho1':=ho1.upd k2 fun _ _ h=>h
   refine Ee (st.upd0 (k1.tr k2)) (ho1'.sl fun y f _ hw=>?_) (Z.sl fun y f _ hw=>?_) ho1.cap Z.cap (by omega) fun U C3 M O Q=>?_
   ·rcases hw with h|h
    ·have:=st.lt y h;omega
    ·omega
   ·rcases hw with h|h
    ·have:=st.lt y h;omega
    ·omega
   ·have s2z:=k2.size
    exact hk (jN l l') (.refl _) U C3 M (fun y f=>(O y f).imp id fun h=>by omega) ((k1.tr k2).wide.tr Q)
 |succ m ih=>
  intro hm b b' l l' C h L t S st B T J q hn hn' hL K hk;refine yG _ _ _ ?_;unfold tV vl Vr Nr;refine⟨trivial,fun a a' e e'=>by cases e;cases e';exact⟨t.plain,S.plain⟩,CondP.intro (fun e=>?_) fun e=>?_⟩
  ·obtain rfl:b=b':=by simpa using e
   obtain rfl:=Iu t S J q;exact hk [] (by rw[EA]) h C (by rw[aL];exact st) (fun _ h=>.inl h) (Upd.refl _ _)
  have hcl:=w9 J q;obtain⟨s,nd,hs⟩:=t;obtain⟨s',nd',P⟩:=S;have hs:∀c,c<32→SlotIs W x h m s c (part x (12-m) c l):=hs;have P:∀c,c<32→SlotIs W x h m s' c (part x (12-m) c l'):=P;obtain⟨d,n,sp,sk,ow,hb,_⟩:=nd.ex;refine gL hb (ag.2 ?_);refine LoopP.ghost (fun(g:Nat×List Ch×(Nat→Prop)) (t:Int) h'=>t=(g.1:Int)∧g.1≤32∧SetAt g.2.2 h' v z (L++g.2.1)∧(∀y,g.2.2 y→C y∨h.size≤y)∧Upd (fun y=>C y∨y=v) h h'∧g.2.1.Perm ((jN l l').filter fun c=>decide (ck x (12-m) c.1<g.1))) (fun g=>32-g.1) (0,[],C)
   ⟨rfl,by omega,by rw[aL];exact st,fun _ h=>.inl h,Upd.refl _ _,by simp⟩ ?_
  rintro I ⟨i,ys,H⟩ t D ⟨rfl,hi,w,A,u,hp⟩ hI;simp only at hi w A hp;have Y:∀y,H y∨y=v→W y:=fun y f=>f.elim (fun h=>(A y h).elim (fun h=>B y (.inl h)) (T y)) fun h=>B y (.inr h)
  have G:∀y,C y∨y=v→W y∨h.size≤y:=fun y f=>.inl (B y f)
  refine ax (fun j=>?_) fun hge=>?_
  rotate_left
  ·have hi32:i=32:=by omega
   subst hi32;refine hk ys (hp.trans ?_) D H w A u;rw[List.filter_eq_self.2 fun c _=>decide_eq_true (zT x (12-m) c.1)]
  have j:i<32:=by omega
  have F:(jN l l').filter (fun c=>decide (ck x (12-m) c.1=i))=jN (part x (12-m) i l) (part x (12-m) i l'):=(Te (fun k=>decide (ck x (12-m) k=i)) J q).symm
  have hyl:ys.length≤200000:=by
   have:=hp.length_eq;have:=List.length_filter_le (fun c:Ch=>decide (ck x (12-m) c.1<i)) (jN l l')
   omega
  have hpl:=li (x:=x) (lev:=12-m) (c:=i) (l:=l);have hpl':=li (x:=x) (lev:=12-m) (c:=i) (l:=l');have step:∀X:List Ch,X.Perm (jN (part x (12-m) i l) (part x (12-m) i l'))→∀h2 C2,SetAt C2 h2 v z ((L++ys)++X)→(∀y,C2 y→H y∨D.size≤y)→Upd (fun y=>H y∨y=v) D h2→I (IntKind.wrap .i64 ((i:Int)+1)) h2:=by
   intro X hz h2 C2 st2 hC2 hu2;rw[mg j (by omega)];refine hI (i+1,ys++X,C2) _ h2 ⟨rfl,j,by rw[←aq];exact st2,fun y f=>?_,?_,?_⟩ (by show 32-(i+1)<32-i;omega)
   ·rcases hC2 y f with h|h
    ·exact A y h
    ·exact .inr (aX u.size h)
   ·exact u.trans hu2 fun y f=>f.elim (fun h=>(A y h).imp .inl id) fun h=>.inl (.inr h)
   ·rw[←F]at hz
    exact(hp.append hz).trans (GW (fun c:Ch=>ck x (12-m) c.1) i (jN l l'))
  have nd1:=nd.upd u G;have E:=nd'.upd u G;have up:∀{s:Slots} {l:List Pr},SlotIs W x h m s i l→SlotIs W x D m s i l:=fun o=>o.imp id fun o=>o.imp id fun⟨D,h2,kb,U,h4⟩=>⟨D,h2,kb,U,TrieAt.updM u G h4⟩
  have sl:=up (hs i j);have sl':=up (P i j);have hWn1:∀y,D.size≤y→W y:=fun y f=>T y (aX u.size f)
  refine Join.plain (wU nd1 j (wU E j ?_));refine Join.intro (fun t h'=>h'=D∧(t=true→(s.k i).isSome=true∧(s'.k i).isSome=true)) (fun R hR=>?_) ?_
  ·refine CondP.intro (fun e=>hR _ _ ⟨rfl,fun e'=>⟨e,e'⟩⟩) fun e=>hR _ _ ⟨rfl,fun e=>by cases e⟩
  rintro t h2 ⟨rfl,ht⟩;refine CondP.intro (fun e=>?_) fun e=>?_
  ·obtain⟨e1,e2⟩:=ht e
   rcases sl with⟨_,_,e3⟩|⟨p,_,_,e3⟩|⟨_,_,kb,e3,tk⟩
   ·rw[e3]at e1;cases e1
   ·rw[e3]at e1;cases e1
   rcases sl' with⟨_,_,e4⟩|⟨p,_,_,e4⟩|⟨_,_,kb',e4,tk'⟩
   ·rw[e4]at e2;cases e2
   ·rw[e4]at e2;cases e2
   rw[e3,e4];refine ih (by omega) tk tk' w Y hWn1 (jl J) (jl q) (by omega) (by omega) (by rw[ac];omega) fun X hz U C3 M O Q=>?_
   exact step X hz U C3 M O Q
  ·obtain⟨_,N,_⟩:=w.ex
   have zsb:=aY N;have hWx:∀y,H y∨y=v→y<h2.size:=fun y f=>f.elim (w.lt y) fun h=>by omega
   refine Ur (Wx:=fun y=>H y∨y=v) nd1 j sl (by omega) (jl J) (by omega) hWx fun s3 U hs3 hc3 V=>?_
   refine Ur (Wx:=fun y=>H y∨y=v) (E.upd V fun _ h=>h.elim) j (sl'.upd0 V) (by omega) (jl q) (by omega) (fun y f=>aG (hWx y f) V.size) fun s4 h4 hs4 hc4 k4=>?_
   refine Ee (w.upd0 (V.tr k4)) (hs3.upd k4 fun _ h=>h.elim) hs4 hc3 hc4 (by rw[ac];omega) fun h5 C5 st5 hC5 hu5=>?_
   have s34:=(V.tr k4).size;exact step _ (.refl _) h5 C5 st5 (fun y f=>(hC5 y f).imp id fun h=>by omega) ((V.tr k4).wide.tr hu5)
end Go.Proofs
namespace Go.Proofs
open Go Go.Lift
def aa0(pre:List UInt8):ByteArray:=⟨pre.toArray⟩
theorem PW(pre:List UInt8):(aa0 pre).data.toList=pre:=by unfold aa0;simp
theorem Ss(k:ByteArray):aa0 k.data.toList=k:=by cases k;rfl
def El(pre:List UInt8)(p:List UInt8×ByteArray):Pr:=(aa0 (pre++p.1),p.2)
def pp(pre:List UInt8)(n:Bn):List Pr:=(xM n.2.1 n.2.2).map (El (pre++n.1))
def yl(key:List UInt8)(w:Option ByteArray):List Pr:=(w.map fun v=>(aa0 key,v)).toList
theorem Yh{x y:List UInt8}:kl (aa0 x) (aa0 y)↔x<y:=by rw[NZ,ByteArray.toList_eq,ByteArray.toList_eq,PW,PW]
theorem Wj(a b:List UInt8)(p:List UInt8×ByteArray):El a (b++p.1,p.2)=El (a++b) p:=by unfold El;rw[aq]
theorem UD(pre:List UInt8):∀F:Fo,(BP F).map (El pre)=F.toL.flatMap (pp pre)
 | .nil=>rfl
 | .cons lab w kids rest=>by
  rw[VV,Fo.toL_cons,aN,cO,UD pre rest,sP];congr 1
  unfold pp xM;exact qf fun p _=>Wj pre lab p
theorem Mm(pre lab:List UInt8)(w:Option ByteArray)(F:Fo):pp pre (lab,w,F)=yl (pre++lab) w++F.toL.flatMap (pp (pre++lab)):=by
 unfold pp;rw[show xM w F=(w.map fun v=>(([]:List UInt8),v)).toList++BP F from rfl,cO,UD]
 congr 1
 cases w with
 |none=>rfl
 |some v=>show[El (pre++lab) ([],v)]=_;unfold El yl;rw[aL];rfl
theorem uv{pre:List UInt8}{n:Bn}(hc:gf n.2.2):bM (pp pre n):=by
 unfold pp;rw[bM,List.pairwise_map];exact(UC (w:=n.2.1) hc).imp fun{p q} h=>Yh.2 (Oq h)
structure NodeK(n:Bn)(pre:List UInt8):Prop where
 can:gf n.2.2
 len:pre.length+n.1.length≤10000
 all:∀p∈xM n.2.1 n.2.2,pre.length+n.1.length+p.1.length≤10000
theorem NodeK.kid{n m:Bn}{pre:List UInt8}(k:NodeK n pre)(hm:m∈n.2.2.toL):NodeK m (pre++n.1):=by
 have b:=(eP.1 k.can).2 _ hm;have a:∀p∈xM m.2.1 m.2.2,(pre++n.1).length+m.1.length+p.1.length≤10000:=fun p e=>by
  have c:tg n.2.2 (m.1++p.1) p.2:=gM.2 ⟨_,hm,p.1,rfl,lj.1 (show(p.1,p.2)∈_ from e)⟩
  have:=k.all (m.1++p.1,p.2) (lj.2 (.inr c));simp only[ac]at this⊢;omega
 obtain⟨r,v,d⟩:=pf k.can _ hm;have:=a (r,v) (lj.2 d);exact⟨b.2.2,by simp only at this;omega,a⟩
theorem GV{pre:List UInt8}{m n:Bn}(hm:m.1≠[])(e:n.1≠[])(h:hd m.1<hd n.1):∀p∈pp pre m,∀q∈pp pre n,kl p.1 q.1:=by
 intro p c q d;unfold pp at c d;obtain⟨a,_,rfl⟩:=fC.1 c;obtain⟨b,_,rfl⟩:=fC.1 d;refine Yh.2 ?_;rw[aq,aq];refine Oq (Qh (by simp[e]) ?_);rw[pZ hm,pZ e];exact h
theorem NN{key:List UInt8}{w:Option ByteArray}{n:Bn}(e:n.1≠[]):∀p∈yl key w,∀q∈pp key n,kl p.1 q.1:=by
 intro p a q d;unfold yl at a;rw[Option.mem_toList,Option.map_eq_some_iff]at a;obtain⟨v,_,rfl⟩:=a;unfold pp at d;obtain⟨b,_,rfl⟩:=fC.1 d;refine Yh.2 ?_;rw[aq];conv=>lhs;rw[←aL key]
 refine Oq ?_;match n.1,e with
 |c::l,_=>exact zN
theorem Wl{f:Bn→List Pr}(L:List Bn)(i:Nat):((L.take i).flatMap f).length≤(L.flatMap f).length:=by
 conv=>rhs;rw[←aO i L,bI,ac]
 omega
theorem acs{a b:ByteArray}:a.data.toList++b.data.toList=(a++b).data.toList:=by
 rw[ByteArray.data_append,Array.toList_append]
theorem RxL.updN{W M:Nat→Prop}{h h':ad}(k:Upd M h h')(hm:∀b,M b→W b∨h.size≤b){ks:List (Option Addr)}{L:List Bn}(r:RxL W h ks L):RxL W h' ks L:=
 ⟨r.1,fun p a=>let⟨b,sl,d,c,e⟩:=r.2 p a;⟨b,sl,d,c,e.updM k hm⟩⟩
def Y5(n:Bn):Prop:=∀{W:Nat→Prop} {h:ad} {b:Nat} {sl:ByteArray} {ahead:ByteArray},RxN W h b sl n.2.1 n.2.2→sl.data.toList=n.1→NodeK n ahead.data.toList→(pp ahead.data.toList n).length≤1000000→∀{K:SliceV→ad→Prop},(∀s' h',OwnS ey 2 al (fun y=>h.size≤y) h' s' (pp ahead.data.toList n)→Upd No h h'→K s' h')→HC PG l7 [.pointer (some ⟨b,0,none⟩),.string ahead] [.c .slice] K h
theorem Pj{lab:List UInt8}{w:Option ByteArray}{F:Fo}(ih:∀n∈F.toL,Y5 n):Y5 (lab,w,F):=by
 intro W h b sl ahead r e nk X K hk;simp only at r e;have r:=r.less (W':=fun y=>h.size≤y) fun _ h=>.inr h
 refine Hj (some ⟨b,0,none⟩) ahead ?_;unfold Bk bE bT lO iU Am;refine ag.2 (oX r ?_);have j:=nk.len;simp only at j;have E:∀k:ByteArray,k.size=k.data.toList.length:=fun k=>by rw[qg];rfl
 have e1:=E ahead;have e2:=E sl;rw[e]at e2;refine⟨by omega,?_⟩;have d:(ahead++sl).data.toList=ahead.data.toList++lab:=by rw[←acs,e]
 have emk:aa0 (ahead.data.toList++lab)=ahead++sl:=by rw[←d,Ss]
 rw[Mm]at X hk;refine Join.intro (fun t h'=>OwnS ey 2 al (fun y=>h.size≤y) h' t (yl (ahead.data.toList++lab) w)∧Upd No h h') (fun R hR=>?_) ?_
 ·refine IP r fun v hv=>?_
  cases w with
  |none=>exact ag.2 (hR _ _ ⟨OwnS.nil fU,Upd.refl _ _⟩)
  |some u=>
   refine aw.2 ?_;have:=hv u rfl;subst this;refine bG ?_;refine ws (p:=(ahead++sl,v)) (M:=fun y=>h.size≤y) (out:= []) (so:=⟨none,0,0⟩) (OwnS.nil fU) (fun _ h=>h) (by simp) fun s1 P s k1=>hR _ _ ⟨?_,k1.mono fun y g=>.inr g⟩
   rw[show yl (ahead.data.toList++lab) (some v)= []++ [(ahead++sl,v)] by unfold yl;rw[emk];rfl]
   exact s
 rintro t P ⟨s,k1⟩;refine FL (r.upd0 k1) (lD nk.can) fun N h2 ks G L Y=>?_
 have q:Sl rJ 1 No h2 N ks:=G.sl fun _ _ _ h=>h
 have J:=q.len;rw[L.1]at J;have D:=lD nk.can;simp only at D;have z1:=k1.size;have z2:=Y.size;have q:Sl rJ 1 (fun y=>h.size≤y∧(y<P.size∨h2.size≤y)) h2 N ks:=G.sl fun y g X hw=>by omega
 refine LoopP.ghost (fun(i:Nat) (t:SliceV×Int) O=>OwnS ey 2 al (fun y=>h.size≤y∧(y<P.size∨h2.size≤y)) O t.1 (yl (ahead.data.toList++lab) w++(F.toL.take i).flatMap (pp (ahead.data.toList++lab)))∧t.2=(i:Int)∧i≤F.toL.length∧Upd (fun y=>h.size≤y∧(y<P.size∨h2.size≤y)) h2 O) (fun i=>F.toL.length-i) 0 ⟨?_,rfl,aS _,Upd.refl _ _⟩ ?_
 ·rw[List.take_zero,jA,aL]
  exact(s.within.more fun y g=>⟨g.1,.inl g.2⟩).upd Y fun _ _ h=>h
 rintro I i ⟨ta,ti⟩ O ⟨o,e3,hi,B⟩ hI;simp only at o e3;subst e3;have C:((F.toL.take (i+1)).flatMap (pp (ahead.data.toList++lab))).length≤(F.toL.flatMap (pp (ahead.data.toList++lab))).length:=Wl _ _;rw[ac]at X;refine ax (fun c=>?_) fun S=>?_
 ·have c:i<F.toL.length:=by have:(i:Int)<(N.len:Int):=c;omega
  have Z:=L.updN B fun y g=>.inl g.1
  obtain⟨kb,ksl,T,j,H⟩:=Z.at c;obtain⟨a,ha,_,hv⟩:=(q.upd B fun _ h=>.inl h).at0 T
  refine Join.plain ⟨⟨by simp only;omega,by simp only;omega⟩,a,ha,some ⟨kb,0,none⟩,hv,?_⟩
  have z:(F.toL.take (i+1)).flatMap (pp (ahead.data.toList++lab))=(F.toL.take i).flatMap (pp (ahead.data.toList++lab))++pp (ahead.data.toList++lab) F.toL[i]:=by
   rw[List.take_succ_eq_append_getElem c,bI];simp
  rw[z,ac]at C;have f:=List.getElem_mem c;generalize F.toL[i]=m at j H z C f;refine ih m f H j (by rw[d];exact nk.kid f) (by rw[d];omega) fun s4 h4 A x=>?_
  rw[d]at A;refine⟨_,(A.sl (W:=No) fun _ _ _ h=>h).srow,?_⟩
  have z3:=B.size;have z4:=x.size;refine AppP.own (ys:=pp (ahead.data.toList++lab) m) (o.upd x fun _ _ h=>h) A.len rfl (za _) rfl (by omega) (by rw[ac];omega) ⟨by omega,.inr (by omega)⟩ fun s5 h5 V Q=>?_
  rw[cS c (by omega)];refine hI (i+1) _ _ ⟨?_,rfl,c,(B.tr x.wide).tr Q⟩ (by omega);rw[z,←aq];exact V
 ·have U:i=F.toL.length:=by have:¬(i:Int)<(N.len:Int):=S;omega
  subst U;rw[List.take_length]at o;exact hk _ O (o.more fun y g=>g.1) ((k1.tr Y).trans B fun y g=>.inr g.1)
theorem FF:∀{F:Fo},gf F→∀n∈F.toL,Y5 n
 | .nil,_,n,a=>by simp[Fo.toL]at a
 | .cons lab w kids rest,h,n,a=>by
  rcases aC.1 a with rfl|a
  ·exact Pj (FF h.2.2.1)
  ·exact FF h.2.2.2.2 n a
theorem XG{n:Bn}{W:Nat→Prop}{h:ad}{b:Nat}{sl:ByteArray}{ahead:ByteArray}(r:RxN W h b sl n.2.1 n.2.2)(e:sl.data.toList=n.1)(nk:NodeK n ahead.data.toList)(a:(pp ahead.data.toList n).length≤1000000){K:SliceV→ad→Prop}(c:∀s' h',OwnS ey 2 al (fun y=>h.size≤y) h' s' (pp ahead.data.toList n)→Upd No h h'→K s' h'):HC PG l7 [.pointer (some ⟨b,0,none⟩),.string ahead] [.c .slice] K h:=
 Pj (FF nk.can) r e nk a c
theorem GZ{W:Nat→Prop}{h:ad}{b:Nat}{sl key:ByteArray}{w:Option ByteArray}{F:Fo}(r:RxN W h b sl w F){K:SliceV→ad→Prop}(a:∀s' h',OwnS ey 2 al (fun y=>h.size≤y) h' s' (yl key.data.toList w)→Upd No h h'→K s' h'):HC PG zB [.pointer (some ⟨b,0,none⟩),.string key] [.c .slice] K h:=by
 refine TP _ key ?_;unfold KP iU;refine IP r fun v hv=>?_
 cases w with
 |none=>exact aw.2 (a _ h (OwnS.nil fU) (Upd.refl _ _))
 |some u=>
  have:=hv u rfl;subst this;refine ag.2 (aP fun c b1 k1=>?_)
  refine a _ c ⟨rfl,fU,aj _,.inr ⟨h.size,[],rfl,aj _,?_,rfl⟩⟩ k1;rw[b1];unfold yl;rw[Ss];rfl
end Go.Proofs
namespace Go.Proofs
open Go Go.Lift
theorem ZK{α:Type}{f:α→List Value}{a:Nat}{W:Nat→Prop}{h:ad}{s:SliceV}{p:α}{l:List α}(b:Sl f a W h s (p::l))(hc:s.len≤s.cap):Sl f a W h ⟨aW s.a 1 s.cap a,s.len-1,s.cap-1⟩ l:=by
 have d:=b.len;rw[ar]at d;have:=Sl.sub b (l:=1) (hi:=s.len) (m:=s.cap) (c:=s.cap-1) (by omega) (by rw[ar];omega) hc;rw[show((p::l).drop 1).take (s.len-1)=l by rw[List.drop_succ_cons,List.drop_zero];exact List.take_of_length_le (by omega)]at this
 exact this
theorem ZR{W W':Nat→Prop}{h:ad}{b:Nat}{sl a:ByteArray}{w d:Option ByteArray}{F F':Fo}(r:RxN W h b sl w F)(i:RxN W' h b a d F'):sl=a∧w=d∧F=F':=by
 obtain⟨val,s,ow,ks,t,f,p,v,u⟩:=r;obtain⟨e,s',q,g,c,m,n,x,o⟩:=i;rw[t]at c;simp only[bO.injEq,Obj.cells.injEq,and_true]at c;obtain⟨j,k,rfl,rfl⟩:=Ux c;have:=Sl.det Uw p n;subst this;exact⟨j,UH k f m,RN u o⟩
theorem RxN.plain{W:Nat→Prop}{h:ad}{b:Nat}{sl:ByteArray}{w:Option ByteArray}{F:Fo}(r:RxN W h b sl w F):gV h ⟨b,0,none⟩:=by
 obtain⟨val,s,ow,ks,a,_⟩:=r;exact Sg a (by simp[Ft])
def NdO(W:Nat→Prop)(h:ad)(pre:List UInt8)(r:Option Addr)(A:List Pr):Prop:=(r=none∧A= [])∨∃b sl n,r=some ⟨b,0,none⟩∧RxN W h b sl n.2.1 n.2.2∧sl.data.toList=n.1∧NodeK n pre∧A=pp pre n
theorem NdO.upd0{W:Nat→Prop}{h h':ad}{pre:List UInt8}{r:Option Addr}{A:List Pr}(k:Upd No h h')(o:NdO W h pre r A):NdO W h' pre r A:=o.imp id fun⟨b,sl,n,c,a,d⟩=>⟨b,sl,n,c,a.upd0 k,d⟩
theorem Pi{W:Nat→Prop}{h:ad}{ahead:ByteArray}{r:Option Addr}{A:List Pr}(o:NdO W h ahead.data.toList r A)(c:A.length≤1000000){K:SliceV→ad→Prop}(a:∀s' h',OwnS ey 2 al (fun y=>h.size≤y) h' s' A→Upd No h h'→K s' h'):HC PG l7 [.pointer r,.string ahead] [.c .slice] K h:=by
 rcases o with⟨rfl,rfl⟩|⟨b,sl,n,rfl,r,e,nk,rfl⟩
 ·refine Hj none ahead ?_
  unfold Bk bE bT lO iU Am;exact aw.2 (a _ h (OwnS.nil fU) (Upd.refl _ _))
 ·exact XG r e nk c a
theorem DZ{W C:Nat→Prop}{h:ad}{ahead:ByteArray}{r t:Option Addr}{A B:List Pr}{L:List Ch}{j:Nat}{z:Hs}(o:NdO W h ahead.data.toList r A)(H:NdO W h ahead.data.toList t B)(st:SetAt C h j z L)(v:A.length≤1000000)(J:B.length≤1000000)(K:L.length+A.length+B.length≤10000000){G:Unit→ad→Prop}(w:WN C h j z (L++jN A B) (G ())):
  HC PG l7 [.pointer r,.string ahead] [.c .slice] (fun(g:SliceV) I=>HC PG l7 [.pointer t,.string ahead] [.c .slice] (fun(a:SliceV) f=>HC PG jw [.pointer (some ⟨j,0,none⟩),.slice g.a g.len g.cap,.slice a.a a.len a.cap] [] (fun(_:Unit) i=>G () i) f) I) h:=by
 refine Pi o v fun N O b k1=>Pi (H.upd0 k1) J fun M h2 c e=>?_
 have D:=k1.size;obtain⟨_,p,_⟩:=st.ex;have u:=aY p;have d:=b.upd e fun _ _ h=>h
 refine Ee (st.upd0 (k1.tr e)) (d.sl fun y s _ n=>?_) (c.sl fun y s _ n=>?_) b.cap c.cap (by omega) fun E x k q m=>?_
 ·rcases n with h|h
  ·have:=st.lt y h;omega
  ·omega
 ·rcases n with h|h
  ·have:=st.lt y h;omega
  ·omega
 ·have F:=e.size
  exact w E x k (fun y s=>(q y s).imp id fun h=>by omega) ((k1.tr e).wide.tr m)
theorem L6{W C:Nat→Prop}{h:ad}{ahead:ByteArray}{r b:Option Addr}{A B:List Pr}{L:List Ch}{c:Nat}{z:Hs}(o:NdO W h ahead.data.toList r A)(i:NdO W h ahead.data.toList b B)(d:r=none∨b=none)(st:SetAt C h c z L)(j:A.length≤1000000)(n:B.length≤1000000)(k:L.length+A.length+B.length≤10000000){K:Unit→ad→Prop}(g:WN C h c z (L++jN A B) (K ())):
  HC PG ju [.pointer (some ⟨c,0,none⟩),.pointer r,.pointer b,.string ahead] [] K h:=by
 refine yH _ r b ahead ?_;unfold tW bE bT Am O8 Nr;refine⟨trivial,fun a a' e q=>by rcases d with h|h<;>simp_all,CondP.intro (fun e=>?_) fun e=>?_⟩
 ·have p:r=b:=by simpa using e
  have m:r=none∧b=none:=by rcases d with h|h<;>simp_all
  obtain⟨rfl,rfl⟩:=m;obtain rfl:A= []:=by rcases o with⟨_,h⟩|⟨_,_,_,h,_⟩;exact h;cases h
  obtain rfl:B= []:=by rcases i with⟨_,h⟩|⟨_,_,_,h,_⟩;exact h;cases h
  exact g h C (by rw[kE,iK,aL];exact st) (fun _ h=>.inl h) (Upd.refl _ _)
 ·refine Join.intro (fun t h'=>t=true∧h'=h) (fun R f=>?_) ?_
  ·rcases d with rfl|rfl
   ·exact aw.2 (f _ _ ⟨rfl,rfl⟩)
   ·exact CondP.intro (fun _=>f _ _ ⟨rfl,rfl⟩) fun _=>aw.2 (f _ _ ⟨rfl,rfl⟩)
  ·rintro t h' ⟨rfl,rfl⟩
   exact aw.2 (DZ o i st j n k g)
theorem aak{sl:ByteArray}{l:List UInt8}(e:sl.data.toList=l)(b:l≠[]):∃c:UInt8,(0:Int)≤0∧sl[(0:Int).toNat]? =some c∧c.toNat=hd l:=by
 match l,b with
 |c::l,_=>
  refine⟨c,Int.le_refl _,?_,rfl⟩;have a:0<sl.size:=by
   have:sl.data.toList.length=sl.size:=qg;rw[←this,e];simp
  have:sl.data[0]? =some c:=by rw[←Array.getElem?_toList,e];rfl
  rw[show(0:Int).toNat=0 from rfl]
  rw[getElem?_pos sl 0 a];rw[Array.getElem?_eq_getElem a]at this;exact this
def To(n:Bn):Prop:=∀{W C:Nat→Prop} {h:ad} {b b':Nat} {sl sl' ahead:ByteArray} {n':Bn} {L:List Ch} {sb:Nat} {z:Hs},RxN W h b sl n.2.1 n.2.2→sl.data.toList=n.1→RxN W h b' sl' n'.2.1 n'.2.2→sl'.data.toList=n'.1→NodeK n ahead.data.toList→NodeK n' ahead.data.toList→SetAt C h sb z L→
 (∀y,C y∨y=sb→W y)→(∀y,h.size≤y→W y)→(pp ahead.data.toList n).length≤1000000→(pp ahead.data.toList n').length≤1000000→L.length+(pp ahead.data.toList n).length+(pp ahead.data.toList n').length≤10000000→
 ∀{K:Unit→ad→Prop},WN C h sb z (L++jN (pp ahead.data.toList n) (pp ahead.data.toList n')) (K ())→HC PG ju [.pointer (some ⟨sb,0,none⟩),.pointer (some ⟨b,0,none⟩),.pointer (some ⟨b',0,none⟩),.string ahead] [] K h
theorem nG{key:List UInt8}{P:List Pr}{L:List Bn}(h:∀n∈L,∀p∈P,∀q∈pp key n,kl p.1 q.1):∀p∈P,∀q∈L.flatMap (pp key),kl p.1 q.1:=by
 intro p b q a;obtain⟨n,c,a⟩:=List.mem_flatMap.1 a;exact h n c p b q a
set_option maxHeartbeats 1000000 in
theorem L7{lab:List UInt8}{w:Option ByteArray}{F:Fo}(ih:∀n∈F.toL,To n):To (lab,w,F):=by
 intro W C h b b' sl sl' ahead n' L E z r e r' e' nk nk' st hCW hWn hA hB hL K hk;obtain⟨lab',w',F'⟩:=n';simp only at r e r' e';refine yH _ _ _ ahead ?_;unfold tW bE bT Am O8 Nr;refine⟨trivial,fun a a' e1 e2=>by cases e1;cases e2;exact⟨r.plain,r'.plain⟩,CondP.intro (fun e1=>?_) fun e1=>?_⟩
 ·obtain rfl:b=b':=by simpa using e1
  obtain⟨rfl,rfl,rfl⟩:=ZR r r';subst e e';exact hk h C (by rw[EA,aL];exact st) (fun _ h=>.inl h) (Upd.refl _ _)
 clear e1;refine Join.intro (fun t h'=>h'=h∧t= !(decide (sl=sl'))) (fun R hR=>?_) ?_
 ·refine ag.2 (ag.2 (oX r (oX r' (hR _ _ ⟨rfl,?_⟩))))
  have eb:(sl.toList==sl'.toList)=decide (sl=sl'):=ge;rw[eb]
 rintro t h0 ⟨rfl,et⟩;by_cases hsl:sl=sl'
 rotate_left
 ·rw[decide_eq_false hsl]at et
  subst et;refine aw.2 ?_;exact DZ (.inr ⟨b,sl,(lab,w,F),rfl,r,e,nk,rfl⟩) (.inr ⟨b',sl',(lab',w',F'),rfl,r',e',nk',rfl⟩) st hA hB hL hk
 rw[decide_eq_true hsl]at et;subst et hsl;obtain rfl:lab=lab':=by rw[←e,←e']
 refine ag.2 (oX r ?_);have hkl:=nk.len;simp only at hkl;have esz:∀k:ByteArray,k.size=k.data.toList.length:=fun k=>by rw[qg];rfl
 have e1:=esz ahead;have e2:=esz sl;rw[e]at e2;refine⟨by omega,?_⟩;have S:(ahead++sl).data.toList=ahead.data.toList++lab:=by rw[←acs,e]
 rw[Mm,ac]at hA hB;rw[Mm,Mm,ac,ac]at hL;rw[Mm,Mm]at hk;have Z:=eP.1 nk.can;have J:=eP.1 nk'.can;have hkid:∀m∈F.toL,NodeK m (ahead++sl).data.toList:=fun m hm=>by rw[S];exact nk.kid hm
 have N:∀m∈F'.toL,NodeK m (ahead++sl).data.toList:=fun m hm=>by rw[S];exact nk'.kid hm
 rw[←S]at hA hB hL hk;generalize ahead++sl=key at S hkid N hA hB hL hk⊢;have T:∀{u:Option ByteArray},bM (yl key.data.toList u):=fun{u}=>by cases u<;>simp[yl,bM]
 rw[Ib T T (nG fun m hm=>NN (Z.2 m hm).1) (nG fun m hm=>NN (J.2 m hm).1) (nG fun m hm=>NN (Z.2 m hm).1) (nG fun m hm=>NN (J.2 m hm).1),←aq]at hk
 refine GZ r fun s1 h1 ho1 k1=>GZ (r'.upd0 k1) fun s2 h2 ho2 k2=>?_
 have k12:=k1.tr k2;have s1z:=k1.size;have s2z:=k2.size;obtain⟨_,hsb,_⟩:=st.ex;have zsb:=aY hsb;refine Ee (st.upd0 k12) ((ho1.upd k2 fun _ _ h=>h).sl fun y d _ hw=>?_) (ho2.sl fun y d _ hw=>?_) ho1.cap ho2.cap (by omega) fun h3 U st3 hC3 hu3=>?_
 ·rcases hw with h|h
  ·have:=st.lt y h;omega
  ·omega
 ·rcases hw with h|h
  ·have:=st.lt y h;omega
  ·omega
 have hlo:∀u v:Option ByteArray,(jN (yl key.data.toList u) (yl key.data.toList v)).length≤(yl key.data.toList u).length+(yl key.data.toList v).length:=fun u v=>w9 T T
 have hlo:=hlo w w';generalize jN (yl key.data.toList w) (yl key.data.toList w')=X at st3 hk hlo;generalize (yl key.data.toList w).length=x1 at hA hL hlo;generalize (yl key.data.toList w').length=x2 at hB hL hlo;have hM3:∀y,C y∨y=E→W y∨h2.size≤y:=fun y d=>.inl (hCW y d)
 have s3z:=hu3.size;refine FL ((r.upd0 k12).updM hu3 hM3) (lD nk.can) fun s4 h4 ks ho4 hL4 k4=>?_
 refine FL (((r'.upd0 k12).updM hu3 hM3).upd0 k4) (lD nk'.can) fun s5 M ks' ho5 hL5 k5=>?_
 have s4z:=k4.size;have s5z:=k5.size;obtain⟨_,hsb3,_⟩:=st3.ex;have zsb3:=aY hsb3;have st5:=st3.upd0 (k4.tr k5);have hW5:∀y,M.size≤y→W y:=fun y d=>hWn y (by omega)
 have hC3W:∀y,U y∨y=E→W y:=fun y d=>d.elim (fun h=>(hC3 y h).elim (fun h=>hCW y (.inl h)) fun h=>hWn y (by omega)) fun h=>hCW y (.inr h)
 have hv4:Sl rJ 1 (fun y=>U y∨y=E∨M.size≤y) M s4 ks:=(ho4.sl (W:=fun y=>U y∨y=E∨M.size≤y) fun y d hl hw=>by
  rcases hw with h|h|h
  ·have:=st3.lt y h;omega
  ·omega
  ·omega).upd k5 fun _ h=>h.elim
 have hv5:Sl rJ 1 (fun y=>U y∨y=E∨M.size≤y) M s5 ks':=ho5.sl (W:=fun y=>U y∨y=E∨M.size≤y) fun y d hl hw=>by
  rcases hw with h|h|h
  ·have:=st3.lt y h;omega
  ·omega
  ·omega
 have hku:Upd (fun y=>C y∨y=E) h0 M:=(k12.wide.tr hu3).tr (k4.tr k5).wide
 have hC5:∀y,U y→C y∨h0.size≤y:=fun y d=>(hC3 y d).imp id fun h=>by omega
 refine LoopP.ghost (fun(g:(List (Option Addr)×List Bn)×(List (Option Addr)×List Bn)×List Ch×(Nat→Prop)) (t:SliceV×SliceV) h'=>SetAt g.2.2.2 h' E z g.2.2.1∧(∀y,g.2.2.2 y→U y∨M.size≤y)∧Upd (fun y=>U y∨y=E) M h'∧Sl rJ 1 (fun y=>U y∨y=E∨M.size≤y) h' t.1 g.1.1∧Sl rJ 1 (fun y=>U y∨y=E∨M.size≤y) h' t.2 g.2.1.1∧t.1.len≤t.1.cap∧t.2.len≤t.2.cap∧
   RxL W h' g.1.1 g.1.2∧RxL W h' g.2.1.1 g.2.1.2∧(∀m∈g.1.2,m∈F.toL)∧(∀m∈g.2.1.2,m∈F'.toL)∧g.1.2.Pairwise (fun m n=>hd m.1<hd n.1)∧g.2.1.2.Pairwise (fun m n=>hd m.1<hd n.1)∧
   g.2.2.1++jN (g.1.2.flatMap (pp key.data.toList)) (g.2.1.2.flatMap (pp key.data.toList))=(L++X)++jN (F.toL.flatMap (pp key.data.toList)) (F'.toL.flatMap (pp key.data.toList))∧
   g.2.2.1.length+(g.1.2.flatMap (pp key.data.toList)).length+(g.2.1.2.flatMap (pp key.data.toList)).length≤10000000∧(g.1.2.flatMap (pp key.data.toList)).length≤1000000∧(g.2.1.2.flatMap (pp key.data.toList)).length≤1000000)
  (fun g=>g.1.2.length+g.2.1.2.length) ((ks,F.toL),(ks',F'.toL),L++X,U)
  ⟨st5,fun _ h=>.inl h,Upd.refl _ _,hv4,hv5,ho4.cap,ho5.cap,hL4.upd0 k5,hL5,fun _ h=>h,fun _ h=>h,Z.1,J.1,rfl,by rw[ac];simp only;omega,by(try simp only);omega,by(try simp only);omega⟩ ?_
 rintro I ⟨⟨ka,La⟩,⟨kb,Lb⟩,L1,C1⟩ ⟨t1,t2⟩ j ⟨st1,hC1,hu1,D,P,hc1,hc2,s,Q,G,V,hpa,hpb,he,hl1,hl2,hl3⟩ hI;simp only at st1 hC1 D P hc1 hc2 s Q G V hpa hpb he hl1 hl2 hl3;have z1:t1.len=La.length:=D.len.trans s.1;have z2:t2.len=Lb.length:=P.len.trans Q.1;have hC1W:∀y,C1 y∨y=E→W y:=fun y d=>d.elim (fun h=>(hC1 y h).elim (fun h=>hC3W y (.inl h)) (hW5 y)) fun h=>hC3W y (.inr h)
 have hW1:∀y,j.size≤y→W y:=fun y d=>hW5 y (aX hu1.size d)
 have go:∀(c:List Ch) (u1 u2:SliceV) (ka2 kb2:List (Option Addr)) (A2 B2:List Bn) (h2:ad) (C2:Nat→Prop),SetAt C2 h2 E z (L1++c)→(∀y,C2 y→C1 y∨j.size≤y)→Upd (fun y=>C1 y∨y=E) j h2→jN (La.flatMap (pp key.data.toList)) (Lb.flatMap (pp key.data.toList))=c++jN (A2.flatMap (pp key.data.toList)) (B2.flatMap (pp key.data.toList))→
   c.length+(A2.flatMap (pp key.data.toList)).length+(B2.flatMap (pp key.data.toList)).length≤(La.flatMap (pp key.data.toList)).length+(Lb.flatMap (pp key.data.toList)).length→(A2.flatMap (pp key.data.toList)).length≤1000000→(B2.flatMap (pp key.data.toList)).length≤1000000→
   Sl rJ 1 (fun y=>U y∨y=E∨M.size≤y) j u1 ka2→Sl rJ 1 (fun y=>U y∨y=E∨M.size≤y) j u2 kb2→u1.len≤u1.cap→u2.len≤u2.cap→RxL W j ka2 A2→RxL W j kb2 B2→A2.Sublist La→B2.Sublist Lb→A2.length+B2.length<La.length+Lb.length→I (u1,u2) h2:=by
  intro c u1 u2 ka2 kb2 A2 B2 h2 C2 st2 hC2 hu2 ec hlc hlA hlB v1 v2 w1 w2 ra rb sa sb' H;have hm:∀y,C1 y∨y=E→(U y∨y=E∨M.size≤y)∨j.size≤y:=fun y d=>.inl (d.elim (fun h=>(hC1 y h).imp id .inr) fun h=>.inr (.inl h))
  have hmW:∀y,C1 y∨y=E→W y∨j.size≤y:=fun y d=>.inl (hC1W y d)
  refine hI ((ka2,A2),(kb2,B2),L1++c,C2) (u1,u2) h2 ⟨st2,fun y d=>?_,?_,v1.upd hu2 hm,v2.upd hu2 hm,w1,w2,ra.updN hu2 hmW,rb.updN hu2 hmW,fun m hm=>G m (sa.subset hm),fun m hm=>V m (sb'.subset hm),hpa.sublist sa,hpb.sublist sb',?_,?_,hlA,hlB⟩ H
  ·rcases hC2 y d with h|h
   ·exact hC1 y h
   ·exact .inr (aX hu1.size h)
  ·exact hu1.trans hu2 fun y d=>d.elim (fun h=>(hC1 y h).imp .inl id) fun h=>.inl (.inr h)
  ·show(L1++c)++_=_
   rw[aq,←ec,he]
  ·show(L1++c).length+(A2.flatMap (pp key.data.toList)).length+(B2.flatMap (pp key.data.toList)).length≤10000000
   rw[ac];omega
 refine Join.intro (fun t h'=>h'=j∧(t=true↔La≠[]∨Lb≠[])) (fun R hR=>?_) ?_
 ·refine ax (fun o=>hR _ _ ⟨rfl,?_⟩) fun o=>hR _ _ ⟨rfl,?_⟩
  ·have o:(t1.len:Int)>0:=o
   simp only[true_iff];left;intro e;rw[e]at z1;simp only[aM]at z1;omega
  ·have o:¬(t1.len:Int)>0:=o
   have e1:La= []:=aA.1 (by omega);show decide ((t2.len:Int)>0)=true↔_
   rw[decide_eq_true_iff];constructor
   ·intro h;right;intro e;rw[e]at z2;simp only[aM]at z2;omega
   ·intro h
    rcases h with h|h
    ·exact absurd e1 h
    ·have:=iR.2 h;omega
 rintro t h6 ⟨rfl,ht⟩;refine CondP.intro (fun et=>?_) fun et=>?_
 rotate_left
 ·have hn:La= []∧Lb= []:=by
   rw[et]at ht;constructor
   ·exact Decidable.byContradiction fun h=>absurd (ht.2 (.inl h)) (by simp)
   ·exact Decidable.byContradiction fun h=>absurd (ht.2 (.inr h)) (by simp)
  obtain⟨rfl,rfl⟩:=hn;rw[jA,kE,iK,aL]at he;subst he;exact hk h6 C1 st1 (fun y d=>(hC1 y d).elim (hC5 y) fun h=>.inr (by omega)) (hku.trans hu1 fun y d=>d.elim (fun h=>(hC5 y h).imp .inl id) fun h=>.inl (.inr h))
 have hne:=ht.1 et;clear ht et;have Y:∀m∈La,m.1≠[]:=fun m hm=>(Z.2 m (G m hm)).1
 have hnb:∀m∈Lb,m.1≠[]:=fun m hm=>(J.2 m (V m hm)).1
 refine Join.intro (fun t h'=>h'=h6∧((t=true∧∃a A',La=a::A'∧∀q∈Lb,hd a.1<hd q.1)∨(t=false∧∃b B',Lb=b::B'∧(La= []∨∃a A',La=a::A'∧¬hd a.1<hd b.1)))) (fun R hR=>?_) ?_
 ·rcases Lb with _|⟨q,B'⟩
  ·rcases La with _|⟨a,A'⟩
   ·exact absurd hne (by simp)
   rw[show(((t2.len:Nat):Int)==0)=true by rw[z2];rfl]
   exact aw.2 (hR _ _ ⟨rfl,.inl ⟨rfl,a,A',rfl,fun q hq=>absurd hq im⟩⟩)
  ·rw[ar]at z2
   rw[show(((t2.len:Nat):Int)==0)=false by rw[beq_eq_false_iff_ne];omega]
   refine ag.2 ?_;rcases La with _|⟨a,A'⟩
   ·rw[aM]at z1
    rw[decide_eq_false (show ¬((t1.len:Int)>0) by omega)]
    exact ag.2 (hR _ _ ⟨rfl,.inr ⟨rfl,q,B',rfl,.inl rfl⟩⟩)
   ·rw[ar]at z1
    rw[decide_eq_true (show((t1.len:Int)>0) by omega)]
    obtain⟨b1,l1,g1,g2,g3⟩:=s.at (i:=0) (pU _);obtain⟨b2,l2,f1,f2,f3⟩:=Q.at (i:=0) (pU _);simp only[gB]at g2 g3 f2 f3;obtain⟨a1,O,_,v1⟩:=D.at0 g1;obtain⟨a2,ha2,_,v2⟩:=P.at0 f1;obtain⟨c1,cc1,cd1,ce1⟩:=aak g2 (Y a (au ..));obtain⟨c2,cc2,cd2,ce2⟩:=aak f2 (hnb q (au ..));refine aw.2 ⟨⟨by(try simp only);omega,by(try simp only);omega⟩,a1,O,_,v1,⟨by(try simp only);omega,by(try simp only);omega⟩,a2,ha2,_,v2,oX g3 ⟨v2,c1,cc1,cd1,oX f3 ⟨c2,cc2,cd2,hR _ _ ⟨rfl,?_⟩⟩⟩⟩
    rw[ce1,ce2];by_cases H:hd a.1<hd q.1
    ·refine .inl ⟨decide_eq_true (by omega),a,A',rfl,fun m hm=>?_⟩
     rcases aC.1 hm with rfl|hm
     ·exact H
     ·exact Nat.lt_trans H ((aF.1 hpb).1 m hm)
    ·exact .inr ⟨decide_eq_false (by omega),q,B',rfl,.inr ⟨a,A',rfl,H⟩⟩
 rintro t h7 ⟨rfl,⟨rfl,a,A',rfl,hlow⟩|⟨rfl,q,B',rfl,hor⟩⟩
 ·
  rw[ar]at z1;obtain⟨b1,l1,g1,g2,g3⟩:=s.at (i:=0) (pU _);simp only[gB]at g2 g3;obtain⟨a1,O,_,v1⟩:=D.at0 g1;rw[aN,ac]at hl1 hl2;refine aw.2 ⟨⟨by(try simp only);omega,by(try simp only);omega⟩,a1,O,_,v1,?_⟩
  refine L6 (A:=pp key.data.toList a) (B:= []) (.inr ⟨b1,l1,a,rfl,g3,g2,hkid a (G a (au ..)),rfl⟩) (.inl ⟨rfl,rfl⟩) (.inr rfl) st1 (by omega) (aS _) (by rw[aM];omega) fun h8 C8 st8 hC8 hu8=>?_
  refine⟨⟨by(try simp only);omega,by(try simp only);omega⟩,?_⟩
  simp only[Bd];rcases ka with _|⟨k0,ka⟩
  ·simp at g1
  have ca:=Z.2 a (G a (au ..));have o:=aF.1 hpa;refine go (jN (pp key.data.toList a) []) _ t2 ka kb A' Lb h8 C8 st8 hC8 hu8 ?_ ?_ (by omega) hl3 (ZK D hc1) P (by show t1.len-1≤t1.cap-1;omega) hc2 (s.drop 1) Q (nz ..) (.refl _) (by rw[ar];omega)
  ·rw[aN]
   exact Ib (B1:= []) (uv ca.2.2) .nil (nG fun m hm=>GV ca.1 (Y m (aE _ hm)) (o.1 m hm)) (nG fun m hm=>GV ca.1 (hnb m hm) (hlow m hm)) (fun p o=>absurd o im) (fun p o=>absurd o im)
  ·have:=w9 (uv (pre:=key.data.toList) ca.2.2) (B:= []) .nil
   rw[aN,ac];rw[aM]at this;omega
 refine ag.2 ?_;rw[ar]at z2;obtain⟨b2,l2,f1,f2,f3⟩:=Q.at (i:=0) (pU _);simp only[gB]at f2 f3;obtain⟨a2,ha2,_,v2⟩:=P.at0 f1;obtain⟨c2,cc2,cd2,ce2⟩:=aak f2 (hnb q (au ..));rcases kb with _|⟨k0',kb⟩
 ·simp at f1
 have cb:=J.2 q (V q (au ..));have hpq:=aF.1 hpb;rw[aN (f:=pp key.data.toList),ac]at hl3;rw[aN (f:=pp key.data.toList) (x:=q),ac]at hl1;refine Join.intro (fun t h'=>h'=h7∧((t=true∧∀p∈La,hd q.1<hd p.1)∨(t=false∧∃a A',La=a::A'∧hd a.1=hd q.1))) (fun R hR=>?_) ?_
 ·rcases hor with rfl|⟨a,A',rfl,hnl⟩
  ·rw[show(((t1.len:Nat):Int)==0)=true by rw[z1];rfl]
   exact aw.2 (hR _ _ ⟨rfl,.inl ⟨rfl,fun p o=>absurd o im⟩⟩)
  ·rw[ar]at z1
   rw[show(((t1.len:Nat):Int)==0)=false by rw[beq_eq_false_iff_ne];omega]
   obtain⟨b1,l1,g1,g2,g3⟩:=s.at (i:=0) (pU _);simp only[gB]at g2 g3;obtain⟨a1,O,_,v1⟩:=D.at0 g1;obtain⟨c1,cc1,cd1,ce1⟩:=aak g2 (Y a (au ..));refine ag.2 ⟨⟨by(try simp only);omega,by(try simp only);omega⟩,a2,ha2,_,v2,⟨by(try simp only);omega,by(try simp only);omega⟩,a1,O,_,v1,oX f3 ⟨v1,c2,cc2,cd2,oX g3 ⟨c1,cc1,cd1,hR _ _ ⟨rfl,?_⟩⟩⟩⟩
   rw[ce1,ce2];by_cases H:hd q.1<hd a.1
   ·refine .inl ⟨decide_eq_true (by omega),fun m hm=>?_⟩
    rcases aC.1 hm with rfl|hm
    ·exact H
    ·exact Nat.lt_trans H ((aF.1 hpa).1 m hm)
   ·exact .inr ⟨decide_eq_false (by omega),a,A',rfl,by omega⟩
 rintro t h8 ⟨rfl,⟨rfl,hlow⟩|⟨rfl,a,A',rfl,heq⟩⟩
 ·
  refine aw.2 ⟨⟨by(try simp only);omega,by(try simp only);omega⟩,a2,ha2,_,v2,?_⟩
  refine L6 (A:= []) (B:=pp key.data.toList q) (.inl ⟨rfl,rfl⟩) (.inr ⟨b2,l2,q,rfl,f3,f2,N q (V q (au ..)),rfl⟩) (.inl rfl) st1 (aS _) (by omega) (by rw[aM];omega) fun h9 C9 st9 hC9 hu9=>?_
  refine⟨⟨by(try simp only);omega,by(try simp only);omega⟩,?_⟩
  simp only[Bd];refine go (jN [] (pp key.data.toList q)) t1 _ ka kb La B' h9 C9 st9 hC9 hu9 ?_ ?_ hl2 (by omega) D (ZK P hc2) hc1 (by show t2.len-1≤t2.cap-1;omega) s (Q.drop 1) (.refl _) (nz ..) (by rw[ar];omega)
  ·rw[aN]
   exact Ib (A1:= []) .nil (uv cb.2.2) (fun p o=>absurd o im) (fun p o=>absurd o im) (nG fun m hm=>GV cb.1 (Y m hm) (hlow m hm)) (nG fun m hm=>GV cb.1 (hnb m (aE _ hm)) (hpq.1 m hm))
  ·have:=w9 (A:= []) (B:=pp key.data.toList q) .nil (uv cb.2.2)
   rw[aN,ac];rw[aM]at this;omega
 ·
  rw[ar]at z1;obtain⟨b1,l1,g1,g2,g3⟩:=s.at (i:=0) (pU _);simp only[gB]at g2 g3;obtain⟨a1,O,_,v1⟩:=D.at0 g1;rcases ka with _|⟨k0,ka⟩
  ·simp at g1
  have ca:=Z.2 a (G a (au ..));have o:=aF.1 hpa;rw[aN,ac]at hl1 hl2;refine ag.2 ⟨⟨by(try simp only);omega,by(try simp only);omega⟩,a1,O,_,v1,⟨by(try simp only);omega,by(try simp only);omega⟩,a2,ha2,_,v2,?_⟩
  refine ih a (G a (au ..)) (n':=q) g3 g2 f3 f2 (hkid a (G a (au ..))) (N q (V q (au ..))) st1 hC1W hW1 (by omega) (by omega) (by omega) fun h9 C9 st9 hC9 hu9=>?_
  refine⟨⟨by(try simp only);omega,by(try simp only);omega⟩,?_⟩
  simp only[Bd];refine⟨⟨by(try simp only);omega,by(try simp only);omega⟩,?_⟩
  refine go (jN (pp key.data.toList a) (pp key.data.toList q)) _ _ ka kb A' B' h9 C9 st9 hC9 hu9 ?_ ?_ (by omega) (by omega) (ZK D hc1) (ZK P hc2) (by show t1.len-1≤t1.cap-1;omega) (by show t2.len-1≤t2.cap-1;omega) (s.drop 1) (Q.drop 1) (nz ..) (nz ..) (by rw[ar,ar];omega)
  ·rw[aN,aN]
   exact Ib (uv ca.2.2) (uv cb.2.2) (nG fun m hm=>GV ca.1 (Y m (aE _ hm)) (o.1 m hm)) (nG fun m hm=>GV ca.1 (hnb m (aE _ hm)) (by rw[heq];exact hpq.1 m hm)) (nG fun m hm=>GV cb.1 (Y m (aE _ hm)) (by rw[←heq];exact o.1 m hm)) (nG fun m hm=>GV cb.1 (hnb m (aE _ hm)) (hpq.1 m hm))
  ·have:=w9 (uv (pre:=key.data.toList) ca.2.2) (uv (pre:=key.data.toList) cb.2.2)
   rw[aN,aN,ac,ac];omega
theorem CE:∀{F:Fo},gf F→∀n∈F.toL,To n
 | .nil,_,n,a=>by simp[Fo.toL]at a
 | .cons lab w kids rest,h,n,a=>by
  rcases aC.1 a with rfl|a
  ·exact L7 (CE h.2.2.1)
  ·exact CE h.2.2.2.2 n a
end Go.Proofs
namespace Go.Proofs
open Go Go.Lift
theorem Qc{lt:Ch→Ch→Bool}(w:WO lt){M:Nat→Prop}{Iv:ad→Prop}{C:Value}(hc:Cmp lt Fv M Iv C){h:ad}{s:SliceV}{A S B:List (Ch)}(ho:OwnS Fv 5 cl M h s (A++(S++B)))(hi:Iv h)(hn:s.len≤1000000000){a b:Nat}(d:a=A.length)(Q:b=A.length+S.length){K:Unit→ad→Prop}
  (hk:∀h' R,OwnS Fv 5 cl M h' s (A++(R++B))→St lt S R→Upd M h h'→K () h'):HC PG dV [.slice s.a s.len s.cap,.int .i64 a,.int .i64 b,C] [] K h:=by
 subst d Q;refine iW s A.length (A.length+S.length:Nat) C ?_;unfold fI bE bT az jR bF lH ga nY;have k:=ho.len;simp only[ac]at k;have ea:IntKind.wrap .i64 ((A.length:Int)+1)=((A.length+1:Nat):Int):=by rw[eJ (by omega)];omega
 rw[ea];refine LoopP.ghost (fun(g:List (Ch)×List (Ch)×List (Ch)) (t:Int) h'=>t=((A.length+max 1 g.1.length:Nat):Int)∧S=g.1++g.2.2∧(g.1= []→g.2.2= [])∧St lt g.1 g.2.1∧OwnS Fv 5 cl M h' s (A++(g.2.1++(g.2.2++B)))∧Upd M h h') (fun g=>g.2.2.length) (S.take 1,S.take 1,S.drop 1)
  ⟨?_,(aO ..).symm,fun e=>?_,⟨Eqf.rfl _,?_⟩,by rw[←aq (S.take 1),aO];exact ho,Upd.refl _ _⟩ ?_
 ·simp only[aQ];omega
 ·have:=congrArg List.length e
  simp only[aQ,aM]at this;exact aA.1 (by simp only[List.length_drop];omega)
 ·match S with
  | []=>exact Srt.nil
  |x::S=>exact Srt.one x
 rintro I ⟨S1,R1,T⟩ t h' ⟨H,O,n,m,u,hu⟩ hI;simp only at H O n m u;subst H O;simp only[ac]at k;have hR1:=m.eqf.len;refine ax (fun D=>?_) fun X=>?_
 ·simp only[ac]at D
  have hS1:S1≠[]:=fun e=>by
   have:=n e;subst e;subst this;simp only[aM]at D;omega
  have hS1l:0<S1.length:=iR.2 hS1;match T with
  | []=>simp only[aM]at D;omega
  |x::T=>
   have F:A.length+max 1 S1.length=A.length+S1.length:=by omega
   rw[F];refine LoopP.ghost (fun(g:List (Ch)×List (Ch)) (t:Int) h2=>t=((A.length+g.1.length:Nat):Int)∧R1=g.1++g.2∧(∀y∈g.2,lt x y=true)∧OwnS Fv 5 cl M h2 s (A++(g.1++(x::(g.2++(T++B)))))∧Upd M h h2) (fun g=>g.1.length) (R1,[])
    ⟨by simp only;omega,by simp,fun y c=>(by cases c),by simpa using u,hu⟩ ?_
   rintro I2 ⟨L,G⟩ t2 h2 ⟨H,O,Z,j,v⟩ W;simp only at H O Z j;subst H O;simp only[ac]at hR1;simp only[ar]at k;refine Join.intro (fun t h3=>Upd M h h3∧OwnS Fv 5 cl M h3 s (A++(L++(x::(G++(T++B)))))∧(t=true→∃L' y,L=L'++ [y]∧lt x y=true)∧(t=false→∀y∈L,lt x y=false)) (fun Rj U=>?_) ?_
   ·refine ax (fun hgt=>?_) fun hle=>?_
    ·rcases Et L with rfl|⟨L',y,rfl⟩
     ·simp only[aM]at hgt;omega
     have o:(L'++ [y]).length=L'.length+1:=by simp
     have N:IntKind.wrap .i64 (((A.length+(L'++ [y]).length:Nat):Int)-1)=((A.length+L'.length:Nat):Int):=by rw[o,eJ (by omega)];omega
     rw[N];have P:A++((L'++ [y])++(x::(G++(T++B))))=(A++L')++y::(x::(G++(T++B))):=by simp
     have Y:A++((L'++ [y])++(x::(G++(T++B))))=(A++(L'++ [y]))++x::(G++(T++B)):=by simp
     have o3:=j;have E:=j;rw[P]at o3;rw[Y]at E;obtain⟨a,d,c⟩:=jf o3 (i:=A.length+L'.length) (by first|omega|(simp;done)|(simp;omega))
     obtain⟨a',f,hx⟩:=jf E (i:=A.length+(L'++ [y]).length) (by first|omega|(simp;done)|(simp;omega))
     rw[d]at f;cases f;refine⟨⟨by omega,by omega⟩,a,d,x.1,hx 0 _ rfl,x.2.1,hx 1 _ rfl,x.2.2.1,hx 2 _ rfl,x.2.2.2.1,hx 3 _ rfl,x.2.2.2.2,hx 4 _ rfl,⟨by omega,by omega⟩,a,d,y.1,c 0 _ rfl,y.2.1,c 1 _ rfl,y.2.2.1,c 2 _ rfl,y.2.2.2.1,c 3 _ rfl,y.2.2.2.2,c 4 _ rfl,?_⟩
     refine hc.call x y (hc.step v hi) fun h5 e V he=>?_
     rw[he];have ho5:=j.upd V fun _ _ h=>h
     refine U _ _ ⟨v.tr V.wide,ho5,fun h=>⟨L',y,rfl,h⟩,fun h z p=>?_⟩
     have hs:=m.srt.left;rcases bC.1 p with p|p
     ·exact w.ntr x y z h (hs.cross z p y (aD.2 rfl))
     ·rw[aD.1 p];exact h
    ·have hL:L= []:=aA.1 (by omega)
     exact U _ _ ⟨v,j,fun h=>(by cases h),fun _ y c=>(by rw[hL]at c;cases c)⟩
   ·rintro t3 h3 ⟨J,q,ht,hf⟩
    cases t3 with
    |true=>
     obtain⟨L',y,rfl,hxy⟩:=ht rfl;have o:(L'++ [y]).length=L'.length+1:=by simp
     refine aw.2 ?_;have N:IntKind.wrap .i64 (((A.length+(L'++ [y]).length:Nat):Int)-1)=((A.length+L'.length:Nat):Int):=by rw[o,eJ (by omega)];omega
     rw[N];have P:A++((L'++ [y])++(x::(G++(T++B))))=(A++L')++y::(x::(G++(T++B))):=by simp
     have Y:(A++L')++y::(x::(G++(T++B)))=(A++(L'++ [y]))++x::(G++(T++B)):=by simp
     have f3:(A++(L'++ [y]))++y::(G++(T++B))=(A++L')++y::(y::(G++(T++B))):=by simp
     have f4:(A++L')++x::(y::(G++(T++B)))=A++(L'++(x::((y::G)++(T++B)))):=by simp
     rw[P]at q;have E:=q;rw[Y]at E;obtain⟨a,d,c⟩:=jf q (i:=A.length+L'.length) (by first|omega|(simp;done)|(simp;omega))
     obtain⟨a',f,hx⟩:=jf E (i:=A.length+(L'++ [y]).length) (by first|omega|(simp;done)|(simp;omega))
     rw[d]at f;cases f;refine⟨⟨by omega,by omega⟩,a,d,y.1,c 0 _ rfl,y.2.1,c 1 _ rfl,y.2.2.1,c 2 _ rfl,y.2.2.2.1,c 3 _ rfl,y.2.2.2.2,c 4 _ rfl,⟨by omega,by omega⟩,a,d,x.1,hx 0 _ rfl,x.2.1,hx 1 _ rfl,x.2.2.1,hx 2 _ rfl,x.2.2.2.1,hx 3 _ rfl,x.2.2.2.2,hx 4 _ rfl,⟨by omega,by omega⟩,a,d,?_⟩
     refine rH E y d (by first|omega|(simp;done)|(simp;omega)) fun h5 o5 V=>⟨⟨by omega,by omega⟩,a,d,?_⟩
     rw[f3]at o5;refine rH o5 x d (by first|omega|(simp;done)|(simp;omega)) fun h6 o6 k6=>?_
     rw[f4]at o6;refine W (L',y::G) _ _ ⟨rfl,by simp,fun z p=>?_,o6,(J.trans V fun b Q=>.inl Q).trans k6 fun b Q=>.inl Q⟩ (by simp only[o];omega)
     rcases aC.1 p with rfl|p
     ·exact hxy
     ·exact Z z p
    |false=>
     refine ag.2 ?_;have N:IntKind.wrap .i64 (((A.length+S1.length:Nat):Int)+1)=((A.length+max 1 (S1.length+1):Nat):Int):=by rw[eJ (by omega)];omega
     rw[N];refine hI (S1++ [x],L++x::G,T) _ _ ⟨by simp,by simp,fun e=>(by simp at e),Ny w m (hf rfl) Z,?_,J⟩ (by simp)
     have P:A++((L++x::G)++(T++B))=A++(L++(x::(G++(T++B)))):=by simp
     rw[P];exact q
 ·simp only[ac]at X
  have hT:T= []:=by
   rcases Nat.eq_zero_or_pos S1.length with h0|h0
   ·exact n (aA.1 h0)
   ·exact aA.1 (by omega)
  subst hT;rw[cN]at u;rw[aL]at hk;exact hk h' R1 u m hu
end Go.Proofs
namespace Go.Proofs
open Go Go.Lift
abbrev aah:ByteArray:=⟨#[0,1,2,2,3,3,3,3,4,4,4,4,4,4,4,4,5,5,5,5,5,5,5,5,5,5,5,5,5,5,5,5,6,6,6,6,6,6,6,6,6,6,6,6,6,6,6,6,6,6,6,6,6,6,6,6,6,6,6,6,6,6,6,6,7,7,7,7,7,7,7,7,7,7,7,7,7,7,7,7,7,7,7,7,7,7,7,7,7,7,7,7,7,7,7,7,7,7,7,7,7,7,7,7,7,7,7,7,7,7,7,7,7,7,7,7,7,7,7,7,7,7,7,7,7,7,7,7,8,8,8,8,8,8,8,8,8,8,8,8,8,8,8,8,8,8,8,8,8,8,8,8,8,8,8,8,8,8,8,8,8,8,8,8,8,8,8,8,8,8,8,8,8,8,8,8,8,8,8,8,8,8,8,8,8,8,8,8,8,8,8,8,8,8,8,8,8,8,8,8,8,8,8,8,8,8,8,8,8,8,8,8,8,8,8,8,8,8,8,8,8,8,8,8,8,8,8,8,8,8,8,8,8,8,8,8,8,8,8,8,8,8,8,8,8,8,8,8,8,8,8,8,8,8,8,8]⟩
theorem aag:∀x:Nat,x<256→∃c:UInt8,aah[x]? =some c∧c.toNat≤8∧(1≤x→2^c.toNat≤2*x)∧(x=0→c.toNat=0):=by
 have key:∀x:Fin 256,∃c:UInt8,aah[x.val]? =some c∧c.toNat≤8∧(1≤x.val→2^c.toNat≤2*x.val)∧(x.val=0→c.toNat=0):=by
  intro x;have:∀x:Fin 256,(match aah[x.val]? with|some c=>decide (c.toNat≤8∧(1≤x.val→2^c.toNat≤2*x.val)∧(x.val=0→c.toNat=0))|none=>false)=true:=by decide+kernel
  have hx:=this x;split at hx
  ·rename_i c hc
   exact⟨c,hc,of_decide_eq_true hx⟩
  ·cases hx
 exact fun x hx=>key ⟨x,hx⟩
theorem Yf{h:ad}{n:Nat}(v:n<4294967296){K:Int→ad→Prop}(m:∀L:Nat,L≤64→(1≤n→2^L≤2*n)→K (L:Int) h):HC PG se [.int .u64 n] [.c (.int .i64)] K h:=by
 refine EX n ?_;unfold xC;have fd:∀(x k:Nat),Int.fdiv (x:Int) (2^k)=((x/2^k:Nat):Int):=fun x k=>by
  rw[Int.fdiv_eq_ediv_of_nonneg _ (Int.pow_nonneg (by omega))];rw[Int.natCast_ediv,Int.natCast_pow];rfl
 refine Join.intro (fun t h'=>h'=h∧t=((n:Int),(0:Int))) (fun R d=>?_) ?_
 ·exact ax (fun a=>by omega) fun a=>d _ _ ⟨rfl,rfl⟩
 ·rintro t h' ⟨rfl,rfl⟩
  refine Join.intro (fun t h2=>h2=h'∧∃x s:Nat,t=((x:Int),(s:Int))∧x*2^s≤n∧(1≤n→1≤x)∧x<65536∧s≤16) (fun R d=>?_) ?_
  ·refine ax (fun a=>?_) fun a=>d _ _ ⟨rfl,n,0,rfl,by simp,fun h=>h,by have a:¬(n:Int)≥65536:=a;omega,by omega⟩
   have a:65536≤n:=by have a:(n:Int)≥65536:=a;omega
   refine⟨by omega,d _ _ ⟨rfl,n/2^16,16,?_,Nat.div_mul_le_self ..,fun _=>by omega,by omega,by omega⟩⟩
   simp only[qG.injEq];exact⟨fd n 16,by decide⟩
  ·rintro t h2 ⟨rfl,x,s,rfl,hx,b,e,i⟩
   refine Join.intro (fun t g=>g=h2∧∃x s:Nat,t=((x:Int),(s:Int))∧x*2^s≤n∧(1≤n→1≤x)∧x<256∧s≤24) (fun R d=>?_) ?_
   ·refine ax (fun a=>?_) fun a=>d _ _ ⟨rfl,x,s,rfl,hx,b,by have a:¬(x:Int)≥256:=a;omega,by omega⟩
    have a:256≤x:=by have a:(x:Int)≥256:=a;omega
    refine⟨by omega,d _ _ ⟨rfl,x/2^8,s+8,?_,?_,fun _=>by omega,by omega,by omega⟩⟩
    ·simp only[qG.injEq]
     exact⟨fd x 8,by rw[eJ (by omega)];omega⟩
    ·rw[ry,kM (2^s),←uq]
     exact aX (Nat.mul_le_mul_right _ (Nat.div_mul_le_self ..)) hx
   ·rintro t g ⟨rfl,x,s,rfl,hx,b,e,i⟩
    obtain⟨c,hc,p,f,u⟩:=aag x e;have o:IntKind.wrap .u8 (x:Int)=(x:Int):=by
     simp[IntKind.wrap,IntKind.bits,IntKind.signed];omega
    show∃b10:UInt8,(0:Int)≤IntKind.wrap .u8 (x:Int)∧aah[(IntKind.wrap .u8 (x:Int)).toNat]? =some b10∧_
    rw[o];refine⟨c,by omega,by simpa using hc,?_⟩
    have q:IntKind.wrap .i64 (c.toNat:Int)=(c.toNat:Int):=eJ (by omega);have j:IntKind.wrap .i64 ((s:Int)+IntKind.wrap .i64 (c.toNat:Int))=((s+c.toNat:Nat):Int):=by rw[q,eJ (by omega)];omega
    show K (IntKind.wrap .i64 ((s:Int)+IntKind.wrap .i64 (c.toNat:Int))) g
    rw[j];refine m _ (by omega) fun a=>?_
    have:=f (b a);rw[ry];calc 2^s*2^c.toNat≤2^s*(2*x):=gJ _ this
     _=2*(x*2^s):=by rw[kM (2^s),uq]
     _≤2*n:=gJ _ hx
theorem Sz{h:ad}{n:Nat}(a:n<4294967296){K:Int→ad→Prop}(b:∀L:Nat,L≤64→(1≤n→2^L≤2*n)→K (L:Int) h):HC PG qC [.int .u64 n] [.c (.int .i64)] K h:=by
 refine HR n ?_;unfold Ad;exact Yf a b
def aae(a b:Ch):Bool:=decide (kl a.1 b.1)
theorem woG:WO aae:=by
 refine⟨fun a=>decide_eq_false (bZ _),fun a b h=>decide_eq_false (Jr (of_decide_eq_true h)),fun a b c d h2=>decide_eq_false fun h=>?_⟩
 have d:¬kl a.1 b.1:=of_decide_eq_false d;have h2:¬kl b.1 c.1:=of_decide_eq_false h2;by_cases e:a.1=b.1
 ·rw[e]at h;exact h2 h
 ·exact h2 (gD (qQ d e) h)
theorem aa7(M:Nat→Prop):Cmp aae Fv M (fun _=>True) (.func (.func pm) #[] #[]):=by
 refine⟨fun a b h K _ d=>HV.mk' (Q2 a b ?_),fun _ h=>h⟩
 unfold HA av iU abD;refine aP fun e b1 k1=>aP fun h2 b2 c=>?_
 refine⟨a.1,vc (c.get0 b1) 0,b.1,vc b2 0,JN (d h2 _ (k1.tr c) ?_)⟩;unfold Lp aae;split
 ·rename_i h;rw[decide_eq_true h];rfl
 ·rename_i h
  rw[decide_eq_false h];split<;>rfl
theorem Eqf.perm{α:Type}[DecidableEq α]{lt:α→α→Bool}(w:WO lt){l l':List α}(h:Eqf lt l l'):l'.Perm l:=by
 rw[List.perm_iff_count];intro a;have e:∀m:List α,m.count a=(m.filter (M1 lt a)).count a:=fun m=>(List.count_filter (JO w a)).symm
 rw[e l',e l,h.flt a]
theorem Ph{R X:List Ch}(k:R.Perm X)(p:Srt aae R)(f:Gl X):R=X:=by
 have n:X.Pairwise fun a b=>aae b a=false:=f.imp fun h=>decide_eq_false (Jr h)
 refine k.eq_of_pairwise (fun a b g o d h2=>?_) p n
 have d:¬kl b.1 a.1:=of_decide_eq_false d;have h2:¬kl a.1 b.1:=of_decide_eq_false h2;have g:=k.mem_iff.1 g;have e:a.1=b.1:=Decidable.byContradiction fun c=>d (qQ h2 c)
 refine Decidable.byContradiction fun c=>?_
 obtain⟨i,hi,rfl⟩:=bQ g;obtain⟨j,m,rfl⟩:=bQ o;rcases Nat.lt_trichotomy i j with h|h|h
 ·have:=cn.1 f i j hi m h
  rw[e]at this;exact bZ _ this
 ·subst h;exact c rfl
 ·have:=cn.1 f j i m hi h
  rw[e]at this;exact bZ _ this
theorem XF{M:Nat→Prop}{h:ad}{s:SliceV}{L X:List Ch}(i:OwnS Fv 5 cl M h s L)(n:L.Perm X)(m:Gl X)(p:L.length≤12){K:Unit→ad→Prop}(k:∀h',OwnS Fv 5 cl M h' s X→Upd M h h'→K () h'):
  HC PG cR [.slice s.a s.len s.cap,.func (.func pm) #[] #[]] [] K h:=by
 refine ir s _ ?_;unfold fp;have j:=i.len;rw[Go.IntWalk.u64_in _ (by omega)];refine Sz (by omega) fun f _ _=>?_
 refine kR s 0 s.len f _ ?_;unfold gZ bE bT az jR bF nY;refine LoopP.ghost (fun(_:Unit) (t:Int×Int×Int×Bool×Bool) h'=>t=(0,(s.len:Int),(f:Int),true,true)∧h'=h) (fun _=>0) () ⟨rfl,rfl⟩ ?_
 rintro I ⟨⟩ t h' ⟨rfl,rfl⟩ _;have e:IntKind.wrap .i64 ((s.len:Int)-0)=(s.len:Int):=by rw[eJ (by omega)];omega
 simp only;rw[e];rw[decide_eq_true (show(s.len:Int)≤12 by omega)]
 refine aw.2 ?_;have c:OwnS Fv 5 cl M h' s ([]++(L++ [])):=by simpa using i
 refine Qc (A:= []) (B:= []) (a:=0) (b:=s.len) woG (aa7 M) c trivial (by omega) rfl (by simp;omega) fun h2 R d g o=>?_
 rw[cN,aL]at d;have:=Ph ((g.eqf.perm woG).trans n) g.srt m;subst this;exact k h2 d o
theorem RE{t:Tr}{h:ad}{K:Int×Int×Int→ad→Prop}(e:∀h',Upd No h h'→K (t.2.1,t.2.2.1,t.2.2.2.1) h'):HC PG qT [yY t] [.agg [.int .u64,.int .u64,.int .u64]] K h:=by
 refine Ds t ?_;unfold wz ae cg df o9 ada ade;refine aP fun g b1 k1=>aP fun h2 b2 d=>?_
 have b:=d.get0 b1;refine⟨_,lJ b 1 0,_,lJ b 1 1,_,lJ b 1 2,?_⟩;refine cF (c:= [.int .u64 0,.int .u64 0,.int .u64 0]) (vs:= [.int .u64 t.2.1,.int .u64 t.2.2.1,.int .u64 t.2.2.2.1]) b2 rfl fun f b3 a=>?_
 exact⟨_,vc b3 0,_,vc b3 1,_,vc b3 2,e f ((k1.tr d).own a k1.size)⟩
theorem L9{t:Tr}{h:ad}{K:Option Addr→ad→Prop}(b:∀h',Upd No h h'→K t.2.2.2.2.2 h'):HC PG oz [yY t] [.c .ptr] K h:=by
 refine EI t ?_;unfold xj aB o9;exact aP fun a b1 k1=>⟨_,vc b1 5,b a k1⟩
theorem XQ{W:Nat→Prop}{h:ad}{b:Nat}{l:List Pr}(t:RadAt W h b l)(g:bM l)(d:Fit l):∃n:Bn,n.1= []∧RxN W h b ⟨#[]⟩ n.2.1 n.2.2∧NodeK n []∧pp [] n=l:=by
 obtain⟨w,F,r1,r2,c⟩:=t.ex;have a:=NH r2 g c;refine⟨([],w,F),rfl,r1,⟨r2,by simp,fun p a=>?_⟩,?_⟩
 ·obtain⟨q,f,e,_⟩:=(c p.1 p.2).1 a
  have:=(d q f).1;rw[←e];have i:q.1.data.toList.length=q.1.size:=qg;simp only[aM];omega
 ·unfold pp
  show(xM w F).map (El ([]++ []))=l
  rw[a];unfold Uj;rw[sP];conv=>rhs;rw[←List.map_id l]
  exact qf fun p _=>by unfold El;simp[Ss]
theorem JJ{W W':Nat→Prop}{x x':Hs}{h:ad}{Y O:Int}{t u:Tr}{l l':List Pr}(i:TreeIs W h Y x t l)(i':TreeIs W' h O x' u l')(hr:bM l)(hf:Fit l)(hn:l.length≤60000)(Z:bM l')(hf':Fit l')(hn':l'.length≤60000)(H:jK t u=true→∀{M:Nat→Prop} {h':ad} {s:SliceV} {L:List Ch} {K':Unit→ad→Prop},OwnS Fv 5 cl M h' s L→(∀b,M b→b<h'.size)→L.Perm (jN l l')→(∀h2,OwnS Fv 5 cl M h2 s (jN l l')→Upd M h' h2→K' () h2)→HC PG cR [.slice s.a s.len s.cap,.func (.func pm) #[] #[]] [] K' h'){K:SliceV×Int→ad→Prop}
  (h0:jK t u=false→∀h',Upd No h h'→K (⟨none,0,0⟩,11) h')(hk:jK t u=true→∀h' s',OwnS Fv 5 cl (fun y=>h.size≤y) h' s' (jN l l')→Upd No h h'→K (s',0) h'):HC PG vO [yY t,yY u] [.c .slice,.c (.int .i64)] K h:=by
 refine WX t u ?_;unfold Nj aI ae aB bK th o9 O8 Vr;refine aP fun h1 b1 k1=>aP fun h2 b2 k2=>?_
 have C:=k2.get0 b1;refine⟨_,vc C 0,_,vc C 1,_,vc C 2,_,vc C 3,_,vc C 4,_,vc C 5,_,vc b2 0,_,vc b2 1,_,vc b2 2,_,vc b2 3,_,vc b2 4,_,vc b2 5,?_⟩;refine Ap fun h3 k3=>?_
 have P:=(k1.tr k2).tr k3;have B:=k3.get0 C;have b3:=k3.get0 b2;rcases hl:jK t u with _|_
 ·exact aw.2 (h0 hl h3 P)
 refine ag.2 ⟨_,vc B 0,_,vc B 1,_,vc B 2,_,vc B 3,_,vc B 4,_,vc B 5,?_⟩;refine RE fun o k4=>?_
 refine aP fun S b5 k5=>?_
 have J:=(P.tr k4).tr k5;have E:=k5.get0 (k4.get0 B);have d5:=k5.get0 (k4.get0 b3);have z5:=aY b5;have s4:=(P.tr k4).size;have s5:=k5.size;obtain⟨rfl,hx⟩:=Wc i i' hl;let z:Hs:=⟨t.2.1,t.2.2.1,t.2.2.2.1⟩
 have st:SetAt No S o.size z []:=⟨⟨⟨none,0,0⟩,b5,OwnS.nil YK⟩,fun _ h=>h.elim,id⟩
 have U:∀Q,Upd No S Q→∀h' j ys,SetAt j h' o.size z ([]++ys)→(∀b,j b→No b∨Q.size≤b)→Upd (fun b=>No b∨b=o.size) Q h'→ys.Perm (jN l l')→∃j ys,SetAt j h' o.size z ys∧(∀y,j y→S.size≤y)∧Upd (fun y=>y=o.size) S h'∧ys.Perm (jN l l'):=
  fun Q p h' j ys st' hC' hu' q=>⟨j,ys,st',fun y m=>(hC' y m).elim (fun h=>h.elim) fun h=>aX p.size h,p.wide.trans hu' fun b hb=>hb.elim (fun h=>h.elim) fun h=>.inl h,q⟩
 refine Join.intro (fun _ h'=>∃j ys,SetAt j h' o.size z ys∧(∀y,j y→S.size≤y)∧Upd (fun y=>y=o.size) S h'∧ys.Perm (jN l l')) (fun R hR=>?_) ?_
 ·refine⟨_,vc E 0,_,vc E 1,_,vc E 2,_,vc E 3,_,vc E 4,_,vc E 5,?_⟩
  refine XA fun Q p=>?_
  have g:=p.get0 E;have c:=p.get0 d5;have i6:=(i.less (W':=fun y=>h.size≤y) fun _ h=>.inr h).upd0 (J.tr p)
  have i6':=(i'.less (W':=fun y=>h.size≤y) fun _ h=>.inr h).upd0 (J.tr p)
  have V:∀y,No y∨y=o.size→h.size≤y:=fun y m=>m.elim (fun h=>h.elim) fun e=>by omega
  rcases i6 with⟨rfl,b,rfl,tt⟩|⟨rfl,b,rfl,tt⟩
  ·rcases i6' with⟨_,b',rfl,v⟩|⟨e,_⟩
   ·obtain rfl:=hx rfl
    refine ag.2 ⟨_,vc g 0,_,vc g 1,_,vc g 2,_,vc g 3,_,vc g 4,_,vc g 5,_,vc c 0,_,vc c 1,_,vc c 2,_,vc c 3,_,vc c 4,_,vc c 5,?_⟩;refine Bu tt fun h7 k=>?_
    have f:=k.get0 c;refine⟨⟨vc f 0,vc f 1,vc f 2,vc f 3,vc f 4,vc f 5⟩,?_⟩;refine Bu (TrieAt.upd0 k v) fun h8 G=>?_
    have a:=(p.tr k).tr G;refine Xr 13 (aj _) (TrieAt.upd0 (k.tr G) tt) (TrieAt.upd0 (k.tr G) v) (st.upd0 a) V (fun y m=>by have:=a.size;omega) hr Z (by omega) (by omega) (by simp) fun ys q h9 C9 d A I=>?_
    exact hR _ _ (U h8 a h9 C9 ys d A I q)
   ·cases e
  ·rcases i6' with⟨e,_⟩|⟨_,b',rfl,v⟩
   ·cases e
   ·refine aw.2 ⟨_,vc g 0,_,vc g 1,_,vc g 2,_,vc g 3,_,vc g 4,_,vc g 5,_,vc c 0,_,vc c 1,_,vc c 2,_,vc c 3,_,vc c 4,_,vc c 5,?_⟩
    refine L9 fun h7 k=>?_
    have f:=k.get0 c;refine⟨⟨vc f 0,vc f 1,vc f 2,vc f 3,vc f 4,vc f 5⟩,?_⟩;refine L9 fun h8 G=>?_
    have a:=(p.tr k).tr G;obtain⟨n,e1,r1,nk,q⟩:=XQ (tt.upd0 (k.tr G)) hr hf;obtain⟨n',e1',r1',nk',N⟩:=XQ (v.upd0 (k.tr G)) Z hf';obtain⟨lab,w,F⟩:=n;simp only at e1;subst e1;refine L7 (CE nk.can) (sl:=⟨#[]⟩) (ahead:=⟨#[]⟩) r1 rfl r1' (by rw[e1']) nk nk' (st.upd0 a) V (fun y m=>by have:=a.size;omega) (by show(pp [] _).length≤_;rw[q];omega) (by show(pp [] _).length≤_;rw[N];omega) (by show 0+(pp [] _).length+(pp [] _).length≤_;rw[q,N];omega) fun h9 C9 d A I=>?_
    have d:SetAt C9 h9 o.size z ([]++jN (pp [] ([],w,F)) (pp [] n')):=d;rw[q,N]at d;exact hR _ _ (U h8 a h9 C9 _ d A I (.refl _))
 ·rintro _ Q ⟨C6,ys,D,X,hu6,q⟩
  obtain⟨s,e6,ho6⟩:=D.ex;refine⟨_,rfl,s,vc e6 3,?_⟩;refine H hl ho6 D.lt q fun h7 ho7 T=>?_
  have e7:=T.get e6 D.ne;refine⟨_,rfl,s,vc e7 3,hk hl h7 s (ho7.more fun y m=>by have:=X y m;omega) ?_⟩
  exact(J.trans hu6 fun y m=>.inr (by omega)).trans T fun y m=>.inr (by have:=X y m;omega)
theorem Ws{W W':Nat→Prop}{x n:Hs}{h:ad}{c a:Int}{t u:Tr}{l l':List Pr}(i:TreeIs W h c x t l)(o:TreeIs W' h a n u l')(j:bM l)(m:Fit l)(p:l.length≤60000)(b:bM l')(f:Fit l')(g:l'.length≤60000)(d:jK t u=true→(jN l l').length≤12){K:SliceV×Int→ad→Prop}
  (q:jK t u=false→∀h',Upd No h h'→K (⟨none,0,0⟩,11) h')(e:jK t u=true→∀h' s',OwnS Fv 5 cl (fun y=>h.size≤y) h' s' (jN l l')→Upd No h h'→K (s',0) h'):HC PG vO [yY t,yY u] [.c .slice,.c (.int .i64)] K h:=
 JJ i o j m p b f g (fun s {_ _ _ _ _} v _ k e=>XF v k (y8 j b) (by rw[k.length_eq];exact d s) e) q e
end Go.Proofs
namespace Go.Proofs
open Go Go.Lift
theorem O9{h:ad}{b:Nat}{c:Array Value}{t:TypeId}(a:h[b]? =some (.cells c t (0,0))):aJ h ⟨b,0,none⟩=c[0]?:=bm a
theorem WD{z:Hs}{W:Nat→Prop}{h:ad}{s:SliceV}{xs:List Pr}(d:Sl (CX z) 3 W h s xs)(k:xs.length*40≤140737488355328){K:SliceV→ad→Prop}
  (e:∀s' h',OwnS (CX z) 3 ci (fun b=>h.size≤b) h' s' xs→Upd No h h'→K s' h'):HC PG fy [.slice s.a s.len s.cap] [.c .slice] K h:=by
 refine nq s ?_;unfold iE Rr;refine CondP.intro (fun c=>?_) (fun i=>?_)
 ·have c:s.a=none:=by simpa using c
  have hx:xs= []:=by
   by_cases hx:xs= []
   ·exact hx
   ·obtain⟨a,g,_⟩:=d.row hx
    rw[c]at g;cases g
  subst hx;exact e _ _ (OwnS.nil (N2 z)) (Upd.refl _ _)
 ·have h2:=d.upd (Upd.hnew No h [] ci) (fun _ h=>h.elim)
  refine⟨_,h2.srow,?_⟩;refine AppP.own (f:=CX z) (M:=fun b=>h.size≤b) (xs:= []) (ys:=xs) ⟨rfl,N2 z,aj _,.inl rfl⟩ d.len rfl (UI z xs) rfl (by omega) (by simpa using k) (by rw[jV];omega) fun s' h' n j=>?_
  exact e _ _ n ((Upd.hnew No h [] ci).trans j fun b m=>.inr m)
theorem We{z:Hs}{W:Nat→Prop}{h:ad}{s:SliceV}{xs:List Pr}(u:Sl (CX z) 3 W h s xs)(o:xs.length≤1000000000){g:Pr→Bool}{V:Value}(E:∀p∈xs,∀{h':ad} {K:Bool→ad→Prop},Upd No h h'→(∀h'',Upd No h' h''→K (g p) h'')→HV PG V [.agg (CX z p).toArray] [.c .bool] K h'){K:Int→ad→Prop}
  (q:∀h' A B e,xs=A++B→(∀a∈A,g a=false)→(B= []→e= -1)→(∀b m,B=b::m→e=(A.length:Int)∧g b=true)→Upd No h h'→K e h'):HC PG dq [.slice s.a s.len s.cap,V] [.c (.int .i64)] K h:=by
 refine mn s V ?_;unfold g5 bT cg az DS;have d:=u.len;refine LoopP.ghost (fun(j:List Pr×List Pr) (t:Int) h'=>t=(j.1.length:Int)∧xs=j.1++j.2∧(∀a∈j.1,g a=false)∧Upd No h h') (fun g=>g.2.length) ([],xs) ⟨rfl,rfl,fun a c=>(by cases c),Upd.refl _ _⟩ ?_
 rintro I ⟨A,B⟩ t h' ⟨n,w,k,f⟩ y;simp only at n w k;subst n w;simp only[ac]at d o;refine ax (fun C=>?_) fun D=>?_
 ·rcases B with _|⟨p,B⟩
  ·simp only[aM]at d;omega
  ·obtain⟨a,c,_,hv⟩:=(u.upd f fun _ h=>h.elim).at (i:=A.length) (x:=p) (by rw[List.getElem?_append_right (aj _),Nat.sub_self];rfl)
   refine⟨⟨by omega,by omega⟩,a,c,p.1,hv 0 _ rfl,p.2,hv 1 _ rfl,gq z p.1,hv 2 _ rfl,?_⟩
   refine E p (by simp) f fun h2 v=>?_
   cases hgp:g p with
   |true=>exact aw.2 (q h2 A (p::B) _ rfl k (fun h=>by cases h) (fun b m e=>by cases e;exact⟨rfl,hgp⟩) (f.tr v))
   |false=>
    refine ag.2 ?_;have F:IntKind.wrap .i64 ((A.length:Int)+1)=((A++ [p]).length:Int):=by simp only[ar]at o;rw[ac,List.length_singleton,eJ (by omega)];omega
    rw[F];refine y (A++ [p],B) _ _ ⟨rfl,by simp,fun a c=>?_,f.tr v⟩ (by simp)
    rcases bC.1 c with c|c
    ·exact k a c
    ·rw[aD.1 c];exact hgp
 ·have G:B= []:=aA.1 (by omega)
  subst G;exact q h' A [] _ rfl k (fun _=>rfl) (fun b m e=>by cases e) f
abbrev atV(a:Nat):Value:=.func (.func vX) #[] #[.pointer (some ⟨a,0,none⟩)]
theorem JZ{z:Hs}{lev:Nat}(e:lev<13){h:ad}{a:Nat}{t:TypeId}(d:h[a]? =some (.cells #[.int .i64 (lev:Int)] t (0,0))) (p:Pr) {K:Int→ad→Prop} (c:∀h',Upd No h h'→K (ck z lev p.1:Int) h'):
  HV PG (atV a) [.agg (CX z p).toArray] [.c (.int .i64)] K h:=by
 refine HV.mk' (Kl (p.1,p.2,gq z p.1) ⟨a,0,none⟩ ?_);unfold Bo ae nX Si;refine aP fun b b1 k1=>?_
 exact⟨_,vc b1 2,_,O9 (k1.get0 d),Td e (c b k1)⟩
theorem Qa{a:Int}{h:ad}{K:Bool→ad→Prop}(b:K false h):HC PG qE [.int .i64 a] [.c .bool] K h:=by
 refine HT a ?_;unfold Af;rw[bne_self_eq_false];exact b
theorem WA{a b:Int}{h:ad}{K:Int→ad→Prop}(d:∀e,decide (e<0)=decide (a<b)→K e h):HC PG si [.int .i64 a,.int .i64 b] [.c (.int .i64)] K h:=by
 refine EZ a b ?_;unfold xE;refine Qa (Qa (ag.2 (ag.2 ?_)));refine ax (fun c=>d _ ?_) fun c=>ax (fun h2=>d _ ?_) fun h2=>d _ ?_
 ·rw[decide_eq_true c];rfl
 ·rw[decide_eq_false c];rfl
 ·rw[decide_eq_false c];rfl
def abK(z:Hs)(lev:Nat)(a b:Pr):Bool:=decide (ck z lev a.1<ck z lev b.1)
theorem abJ(z:Hs)(lev:Nat):WO (abK z lev):=by
 refine⟨fun a=>decide_eq_false (by omega),fun a b h=>decide_eq_false ?_,fun a b c h k=>decide_eq_false ?_⟩
 ·have:=of_decide_eq_true h;omega
 ·have:=of_decide_eq_false h;have:=of_decide_eq_false k;omega
theorem aax(z:Hs)(lev:Nat)(x a:Pr):M1 (abK z lev) x a=decide (ck z lev a.1=ck z lev x.1):=by
 unfold M1 abK;by_cases e:ck z lev a.1=ck z lev x.1
 ·rw[decide_eq_true e,e];simp
 ·rw[decide_eq_false e]
  rcases Nat.lt_or_gt_of_ne e with h|h
  ·rw[decide_eq_true h];rfl
  ·rw[decide_eq_true (p:=ck z lev x.1<ck z lev a.1) h];simp
def Two(a b:Nat)(lev:Nat)(h:ad):Prop:=h[a]? =some (.cells #[.int .i64 (lev:Int)] jJ (0,0))∧h[b]? =some (.cells #[atV a] rm (0,0))
theorem Two.upd{a b lev:Nat}{h h':ad}(t:Two a b lev h)(k:Upd No h h'):Two a b lev h':=⟨k.get0 t.1,k.get0 t.2⟩
theorem adR{z:Hs}{lev:Nat}(n:lev<13){i d:Nat}{M:Nat→Prop}(m:¬M i)(h2:¬M d):Cmp (abK z lev) (CX z) M (Two i d lev) (.func (.func vW) #[] #[.pointer (some ⟨d,0,none⟩)]):=by
 refine⟨fun a b h K t s=>HV.mk' (Kk (a.1,a.2,gq z a.1) (b.1,b.2,gq z b.1) ⟨d,0,none⟩ ?_),fun k t=>⟨k.get t.1 m,k.get t.2 h2⟩⟩
 unfold Bm ae av jR DS Si abd;refine aP fun m b1 k1=>aP fun h2 b2 o=>?_
 have c:=k1.tr o;have t2:=t.upd c;have g:=o.get0 b1;refine⟨_,O9 t2.2,_,vc g 0,_,vc g 1,_,vc g 2,_,O9 t2.2,_,vc b2 0,_,vc b2 1,_,vc b2 2,?_⟩;refine JZ (z:=z) n t2.1 a fun v f=>?_
 have j:=t2.upd f;have b3:=f.get0 b2;refine⟨⟨vc b3 0,vc b3 1,vc b3 2⟩,O9 j.2,?_⟩;refine JZ (z:=z) n j.1 b fun u p=>?_
 refine WA fun e q=>s u e ((c.tr f).tr p) ?_
 rw[q];unfold abK;exact decide_eq_decide.2 (by omega)
end Go.Proofs
