/- A part of the proof that the named laws of this program answer true, whatever the input. -/
import Derived.Test.YtopdngagmfanlaaGreatDoorPart8
import Derived.Test.YtopdngagmfanlaaGreatDoorPart6
import Derived.Test.YtopdngagmfanlaaGreatDoorPart5
open Bool renaming and_eq_true→aJ,true_and→dj,false_and→iA,false_or→lR,true_or→p9
open ByteArray renaming ext→wd,data_extract→gB,size_append→aE
open Go.IntKind renaming wrap→ac,wrap_u64→dZ
open Int renaming toNat_natCast→ak
open List renaming mem_cons_self→aP,mem_cons_of_mem→aK,length_append→aj,length_cons→ay,length_map→gK,cons_append→fA,mem_cons→ar,mem_singleton→aO,not_mem_nil→bX,length_nil→bN,mem_append→bD,getElem?_eq_getElem→ah,find?_eq_none→jt,mem_of_getElem?→bf,take_add_one→iI,take_append_drop→bT,take_length→bJ,getElem_mem→bZ,flatMap_append→cc
open Nat renaming zero_le→aV,succ_mul→nF,mul_le_mul_right→gc,le_refl→av,le_trans→aU
namespace Go.Proofs
open Go Go.Lift Go.RowKit
theorem Kv(c:UInt8):∀l:List (List UInt8),Lib.join l [c]=pC c l
 | []=>rfl
 | [w]=>Lib.join_one w [c]
 |w::u::l=>by
  have a:=Kv c (u::l);rw[Lib.join_cons]at a⊢;show w++([c]++u++Lib.joinTail [c] l)=w++c::pC c (u::l)
  rw[←a];simp
theorem Hx{m:Nat}(c:UInt8):∀l:List (List UInt8),(∀x∈l,x.length≤m)→(pC c l).length≤l.length*(m+1)
 | [],_=>aV _
 | [w],h=>by have:=h w (aP ..);show w.length≤_;simp;omega
 |w::u::l,h=>by
  have a:=Hx c (u::l) fun x hx=>h x (aK _ hx)
  have:=h w (aP ..);show(w++c::pC c (u::l)).length≤(l.length+1+1)*(m+1)
  rw[nF,aj,ay];simp only[ay]at a;omega
theorem TA{c:UInt8}{W:Nat→Prop}{h:ad}{s:SliceV}{ws:List (List UInt8)}(m:Sl Cm 1 W h s ws)(d:∃b,s.a=some ⟨b,0,none⟩)(hc:s.len≤s.cap)(n:ws≠[])(C:ws.length≤1000000)(hm:∀x∈ws,x.length≤1000000){K:ByteArray→ad→Prop}(u:∀h',Upd No h h'→K (aG (pC c ws)) h'):
  HC PG Fm [.slice s.a s.len s.cap,.string ⟨#[c]⟩] [.c .str] K h:=by
 obtain⟨b,d⟩:=d;obtain⟨E,sl,o⟩:=s;simp only at d hc;subst d;have A:sl=ws.length:=m.len;subst A;refine HC.shelf Tryz.call47 fun w z=>?_
 subst z;have f:(ws.map aG).map (fun x:ByteArray=>x.data.toList)=ws:=by
  rw[List.map_map];conv=>rhs;rw[←List.map_id ws]
  refine List.map_congr_left fun x _=>by simp
 have q:Lib.join ((ws.map aG).map (fun x:ByteArray=>x.data.toList)) (⟨#[c]⟩:ByteArray).data.toList=pC c ws:=by rw[f];exact Kv c ws
 have p:=Hx c ws hm;have D:b<w.heap.size:=by
  cases ws with
  |nil=>exact absurd rfl n
  |cons x ws=>
   obtain⟨a,d,_,k⟩:=m.at0 (g:=fun w=>Value.string (aG w)) (i:=0) (x:=x) rfl
   cases d;have:=HH k;rwa [AB]at this
 have:=Any.strings_Join Jd Ty b 0 o (ws.map aG) ⟨#[c]⟩ w (fun j x hx=>by
  rw[List.getElem?_map]at hx
  obtain⟨y,v,rfl⟩:=Option.map_eq_some_iff.1 hx
  obtain⟨a,d,_,k⟩:=m.at0 (g:=fun w=>Value.string (aG w)) v
  cases d
  rw[ci,Nat.mul_one]at k
  exact k) D (by rw[gK];omega) (by rw[gK];exact hc) (by
   rw[q]
   have:ws.length*(1000000+1)≤1000000*(1000000+1):=gc _ C
   omega)
 rw[gK,q]at this;exact this.mono fun e w' ⟨B,t⟩=>⟨xP t,aG (pC c ws),B,u _ (wL t)⟩
theorem Uz(d:OpD)(p:UInt8)(l:List UInt8):fC d (p::l)=match Cl p d,fC d l with|some a,some b=>some (a++b)|_,_=>none:=rfl
theorem GH(d:OpD):∀a b:List UInt8,fC d (a++b)=match fC d a,fC d b with|some x,some y=>some (x++y)|_,_=>none
 | [],b=>by
  show fC d b=_
  cases fC d b<;>rfl
 |p::a,b=>by
  rw[fA,Uz,Uz,GH d a b];cases Cl p d<;>cases fC d a<;>cases fC d b<;>simp
theorem NextS.go{i:Nat}{h:ad}{s:ByteArray}{n:Nat}{b:UInt8}{Ke:Prop}{Ks:Nat→UInt8→ad→Prop}(c:h[i]? =some (.stringIter s n)) (e:s[n]? =some b) (a:b.toNat<128) (d:∀h2,Upd (· =i) h h2→h2[i]? =some (.stringIter s (n+1))→Ks n b h2):NextS ⟨i,0,none⟩ h Ke Ks:=
 ⟨rfl,s,n,c,.inr ⟨b,e,a,d _ (Upd.set _ _ rfl) (jx c)⟩⟩
theorem NextS.stop{i:Nat}{h:ad}{s:ByteArray}{n:Nat}{Ke:Prop}{Ks:Nat→UInt8→ad→Prop}(a:h[i]? =some (.stringIter s n)) (b:s.size≤n) (c:Ke):NextS ⟨i,0,none⟩ h Ke Ks:=⟨rfl,s,n,a,.inl ⟨b,c⟩⟩
theorem QU{n:Nat}(h:n≤9223372036854775807):(dL n).length≤20:=KS (by omega)
theorem oh(x:ByteArray):(eJ x).length≤2*x.size+1:=by
 unfold eJ lU;split
 ·simp
 ·rw[wD,nI];omega
theorem Ak(v:ByteArray)(is:Bool):(iB v is).length≤2*v.size+1:=by
 unfold iB;split
 ·exact oh v
 ·simp
theorem NW{x:ByteArray}(h:ft x=true):x.data.toList.length≤32:=by
 unfold ft at h;simp only[aJ,decide_eq_true_eq]at h;rw[nI];omega
theorem OD{N:Nat}:∀(l:List Ch) (ws:List (List UInt8)),(∀c∈l,c.1.size≤N∧c.2.1.size≤N∧c.2.2.1.size≤N)→mq l=some ws→∀x∈ws,x.length≤2*N+1
 | [],ws,_,h,x,hx=>by cases h;cases hx
 |c::l,ws,hc,h,x,hx=>by
  obtain⟨b,_,_,d,rfl⟩:=wJ h;obtain⟨f,e,g⟩:=hc c (aP ..);simp only[ar]at hx;rcases hx with rfl|rfl|rfl|hx
  ·have:=oh c.1;omega
  ·have:=Ak c.2.1 c.2.2.2.1;omega
  ·have:=Ak c.2.2.1 c.2.2.2.2;omega
  ·exact OD l b (fun c a=>hc c (aK _ a)) d x hx
structure BndD(N m:Nat)(d:OpD):Prop where
 key:d.key.size≤N
 v:d.v.size≤N
 fr:d.fr.size≤N
 up:d.up.size≤N
 ps:d.ps.length≤m∧∀p∈d.ps,p.1.size≤N∧p.2.size≤N
 cs:d.cs.length≤m∧∀c∈d.cs,c.1.size≤N∧c.2.1.size≤N∧c.2.2.1.size≤N
 num:W4 d
theorem RF{N m:Nat}(j:15<N){d:OpD}(b:BndD N m d){p:UInt8}(f:p∈kp){l:List (List UInt8)}(h:Cl p d=some l):l.length≤3*m+3∧∀x∈l,x.length≤2*N+1:=by
 have one:∀{y:List UInt8},y.length≤2*N+1→[y].length≤3*m+3∧∀x∈[y],x.length≤2*N+1:=fun i=>⟨by simp,fun x hx=>by rw[aO.1 hx];exact i⟩
 have hx:∀{x:ByteArray},x.size≤N→(eJ x).length≤2*N+1:=fun{x} h=>by have:=oh x;omega
 have g:∀{n:Nat},n≤9223372036854775807→(dL n).length≤2*N+1:=fun h=>by have:=QU h;omega
 obtain⟨s,u,t,q⟩:=b.num;simp only[ar,bX,or_false]at f;rcases f with rfl|rfl|rfl|rfl|rfl|rfl|rfl|rfl|rfl|rfl|rfl
 ·have h:(if ft d.b then some [d.b.data.toList]else none)=some l:=h
  split at h
  ·rename_i e;cases h;exact one (by have:=NW e;omega)
  ·cases h
 ·have h:(if ft d.o then some [d.o.data.toList]else none)=some l:=h
  split at h
  ·rename_i e;cases h;exact one (by have:=NW e;omega)
  ·cases h
 ·cases h;exact one (hx b.key)
 ·cases h;exact one (hx b.v)
 ·cases h;exact one (g (by omega))
 ·cases h;exact one (g (by omega))
 ·have h:(if cZ d.s then some [dL d.s.toNat]else none)=some l:=h
  split at h
  ·rename_i e;cases h;simp only[cZ,aJ,decide_eq_true_eq]at e;exact one (g (by omega))
  ·cases h
 ·have h:(if cZ d.w then some [dL d.w.toNat]else none)=some l:=h
  split at h
  ·rename_i e;cases h;simp only[cZ,aJ,decide_eq_true_eq]at e;exact one (g (by omega))
  ·cases h
 ·have h:some [eJ d.fr,if d.op then[42]else eJ d.up,if d.back then iw else Gk]=some l:=h
  cases h;refine⟨by simp only[ay,bN];omega,fun x a=>?_⟩
  simp only[ar,bX,or_false]at a;rcases a with rfl|rfl|rfl
  ·exact hx b.fr
  ·split
   ·simp only[ay,bN];omega
   ·exact hx b.up
  ·split<;>simp only[ay,bN]<;>omega
 ·have h:some (mH d.ps)=some l:=h
  cases h;refine⟨by rw[CF];have:=b.ps.1;omega,fun x a=>?_⟩
  unfold mH at a;rw[List.mem_flatMap]at a;obtain⟨p,f,c⟩:=a;obtain⟨o,k⟩:=b.ps.2 p f;simp only[ar,bX,or_false]at c;rcases c with rfl|rfl
  ·exact hx o
  ·exact hx k
 ·have h:mq d.cs=some l:=h
  exact⟨by rw[H8 _ _ h];have:=b.cs.1;omega,OD _ _ b.cs.2 h⟩
theorem Cr{N m:Nat}(c:15<N){d:OpD}(b:BndD N m d):∀(pt:List UInt8) (l:List (List UInt8)),(∀q∈pt,q∈kp)→fC d pt=some l→l.length≤pt.length*(3*m+3)∧∀x∈l,x.length≤2*N+1
 | [],l,_,h=>by cases h;exact⟨aV _,fun x hx=>by cases hx⟩
 |p::pt,l,hk,h=>by
  unfold fC at h;split at h
  ·rename_i x y e1 e2
   cases h;obtain⟨i,f⟩:=RF c b (hk p (aP ..)) e1;obtain⟨j,g⟩:=Cr c b pt y (fun q e=>hk q (aK _ e)) e2
   refine⟨by rw[aj,ay,nF];omega,fun z a=>?_⟩
   rcases bD.1 a with a|a
   ·exact f z a
   ·exact g z a
  ·cases h
theorem SmallD.bnd{d:OpD}(s:SmallD d):BndD 20000 20000 d:=⟨s.key,s.v,s.fr,s.up,s.ps,s.cs,s.num⟩
theorem HK:∀f∈formsL,f.2.1.length≤8∧f.2.2.length≤3∧f.2.1≠[]:=by decide+kernel
theorem LR{W:Nat→Prop}{h:ad}{s:SliceV}(v:Sl Jj 3 W h s formsL){o:xm}{b:Nat}(A:h[b]? =some (.cells (gn o).toArray aL (0,0))) {K:Int→ad→Prop} (D:∀h' (i:Nat) f,formsL[i]? =some f→f.1=o.1→Upd No h h'→K (i:Int) h') (p:(∀f∈formsL,f.1≠o.1)→∀h',Upd No h h'→K (-1) h'):
  HC PG eK [.slice s.a s.len s.cap,.func (.func vQ) #[] #[.pointer (some ⟨b,0,none⟩)]] [.c (.int .i64)] K h:=by
 refine lY s _ ?_;unfold gP cU bL wz ZE;have E:s.len=26:=v.len;refine LoopP.ghost (fun(i:Nat) (t:Int) h'=>t=(i:Int)∧i≤26∧(∀f∈formsL.take i,f.1≠o.1)∧Upd No h h') (fun i=>26-i) 0 ⟨rfl,aV _,(fun f C=>by cases C),Upd.refl _ _⟩ ?_
 rintro I i t h' ⟨rfl,hi,x,k⟩ z;refine aF (fun c=>?_) fun q=>?_
 ·have c:i<formsL.length:=by have:(i:Int)<(s.len:Int):=c;show i<26;omega
  have j:i<26:=c;obtain⟨a,B,_,m⟩:=(v.upd k fun _ h=>h.elim).at (ah c)
  have u:=ah c;have w:=E0 c;generalize formsL[i]=f at m u w;refine⟨⟨by omega,by omega⟩,a,B,f.1,by rw[ak];exact m 0 _ rfl,aG f.2.1,by rw[ak];exact m 1 _ rfl,aG f.2.2,by rw[ak];exact m 2 _ rfl,HV.mk' ?_⟩
  refine Jw (f.1,aG f.2.1,aG f.2.2) ⟨b,0,none⟩ ?_;unfold Bk ao wz ZR;refine nP fun y b2 n=>⟨_,vc b2 0,_,vc (n.get0 (k.get0 A)) 0,CondP.intro (fun e=>?_) fun e=>?_⟩
  ·exact D y i f u (by simpa using e) (k.tr n)
  ·rw[cM j (by omega)]
   refine z (i+1) _ _ ⟨rfl,j,fun g d=>?_,k.tr n⟩ (by omega)
   rw[w]at d;rcases bD.1 d with d|d
   ·exact x g d
   ·rw[aO.1 d];simpa using e
 ·have hi:i=26:=by have:¬(i:Int)<(s.len:Int):=q;omega
  subst hi;exact p x h' k
theorem Fp{d:OpD}{sp sc:SliceV}{h:ad}(sm:SmallD d)(hps:Sl iZ 2 No h sp d.ps)(hcs:Sl oX 5 No h sc d.cs)(l:Laid h){K:ByteArray→ad→Prop}(o:∀h',Upd No h h'→K (aG ((jQ d).getD [])) h'):HC PG uO [LG (mo d sp sc)] [.c .str] K h:=by
 refine O9 (mo d sp sc) ?_;unfold FR cU ao bC ag aX aI nv BI MM bL wz Us UG FX;refine nP fun h1 b1 k1=>CY fun h3 of Z=>?_
 have z1:=k1.size;have N:=k1.tr Z;refine LR (of.sl (W:=No) fun _ _ _ h=>h) (Z.get0 b1) (fun X i f V hfk O=>?_) fun U X O=>?_
 rotate_left
 ·refine aA.2 ?_
  have:jQ d=none:=by
   unfold jQ;rw[jt.2 fun f V=>by simpa using U f V]
  have o:=o X (N.tr O);rw[this]at o;exact o
 refine aF (fun e=>absurd e (by omega)) fun _=>CY fun h7 of7 k7=>?_
 have hm:=bf V;have i26:i<26:=(List.getElem?_eq_some_iff.1 V).1;have u:formsL.find? (fun f=>f.1==d.k)=some f:=QL hm hfk
 obtain⟨a,ha,_,hv⟩:=(of7.sl (W:=No) fun _ _ _ h=>h).at V
 have ha:a=⟨X.size,0,none⟩:=(Option.some.inj ha).symm;refine⟨⟨by omega,by show((i:Nat):Int)<((26:Nat):Int);omega⟩,a,by rw[ha],f.1,by rw[ak];exact hv 0 _ rfl,aG f.2.1,by rw[ak];exact hv 1 _ rfl,aG f.2.2,by rw[ak];exact hv 2 _ rfl,nP fun h12 b12 k12=>cS (c:= [.int .i64 0,.string ⟨#[]⟩,.string ⟨#[]⟩]) (vs:=Jj f) b12 rfl fun j R u13=>⟨_,vc R 1,nP fun k P w=>?_⟩⟩
 have m:Upd No h7 j:=k12.own u13 (av _);refine⟨aG f.2.2,vc (w.get0 R) 2,bj ?_⟩;have A:=Upd.push No k (.stringIter (aG f.2.2) 0);have G:=mF k (.stringIter (aG f.2.2) 0);generalize k.push (.stringIter (aG f.2.2) 0)=h17 at A G;have z17:=bB G;have kA:Upd No h h17:=((((N.tr O).tr k7).tr m).tr w).tr A;have kh:h.size≤j.size:=(((N.tr O).tr k7).tr m).size
 have z13:=bB P;obtain⟨hs1,hs2,_⟩:=HK f hm;have D:=(tH f hm).1;have o0:OwnS Cm 1 bR (fun y=>j.size≤y∧y≠k.size) h17 ⟨some (aH j),1,1⟩ [f.2.1]:=Cq (A.get0 P) ⟨av _,by omega⟩
 have bnd:=sm.bnd;refine LoopP.ghost (fun(g:Nat×List (List UInt8)) (t:SliceV) h'=>g.1≤f.2.2.length∧fC d (f.2.2.take g.1)=some g.2∧OwnS Cm 1 bR (fun y=>j.size≤y∧y≠k.size) h' t (f.2.1::g.2)∧h'[k.size]? =some (.stringIter (aG f.2.2) g.1)∧Upd (fun y=>j.size≤y) h17 h') (fun g=>f.2.2.length-g.1) (0,[]) ⟨aV _,rfl,o0,G,Upd.refl _ _⟩ ?_
 rintro I ⟨n,ws⟩ t h' ⟨U,H,E,F,hu⟩ hI;simp only at U H E F;have kAu:Upd No h h':=kA.trans hu fun y v=>.inr (aU kh v)
 by_cases S:n<f.2.2.length
 ·obtain⟨p,hp⟩:∃p,f.2.2[n]? =some p:=⟨_,ah S⟩
  have B:=D p (bf hp);have L:p.toNat<128:=by
   simp only[ar,bX,or_false]at B;rcases B with rfl|rfl|rfl|rfl|rfl|rfl|rfl|rfl|rfl|rfl|rfl<;>decide
  refine NextS.go F (by rw[Oh];simpa using hp) L fun h2 u3 Q=>?_
  have z13':j.size≤k.size:=w.size;have C:Upd (fun y=>j.size≤y) h17 h2:=hu.trans u3 fun y v=>.inl (by have v:y=k.size:=v;show j.size≤y;omega)
  have Y:Upd No h h2:=kA.trans C fun y v=>.inr (aU kh v)
  have b2:=C.get ((((((Z.tr O).tr k7).tr m).tr w).tr A).get0 b1) (show ¬j.size≤h.size by have:=bB b1;have:=((Z.tr O).tr k7).tr m;have:=this.size;omega)
  have ho2:=E.upd u3 fun y v e=>v.2 (by have e:y=k.size:=e;exact e)
  have e:f.2.2.take (n+1)=f.2.2.take n++ [p]:=by rw[iI,hp];rfl
  refine tA b2 (SF (d:=d) B sm (hps.upd Y fun _ h=>h.elim) (hcs.upd Y fun _ h=>h.elim) (l.upd0 Y) (fun h4 s wp T o4 z=>?_) fun J h4 s z=>?_)
  ·refine af.2 ⟨_,(o4.sl (W:=No) fun _ _ _ h=>h).srow,AppP.own (ys:=wp) (ho2.upd z fun _ _ h=>h) o4.len rfl (Gm wp) rfl (by omega) ?_ ⟨by have:=C.size;have:=z.size;omega,by have:=bB (z.get0 Q);omega⟩ fun s' X o5 u5=>?_⟩
   ·obtain⟨q1,_⟩:=RF (by omega) bnd B T
    obtain⟨q2,_⟩:=Cr (by omega) bnd _ _ (fun q hq=>D q (List.mem_of_mem_take hq)) H
    have:(f.2.2.take n).length*(3*20000+3)≤3*(3*20000+3):=gc _ (by rw[List.length_take];omega);simp only[ay];omega
   ·refine hI (n+1,ws++wp) s' X ⟨S,?_,by rw[←fA];exact o5,u5.get (z.get0 Q) (fun h=>h.2 rfl),(C.trans z fun _ h=>h.elim).trans u5 fun y v=>.inl v.1⟩ (by simp only;omega)
    show fC d (f.2.2.take (n+1))=_
    rw[e,GH,H];show(match some ws,fC d [p]with|some x,some y=>some (x++y)|_,_=>none)=_
    unfold fC;rw[T];simp[fC]
  ·refine aA.2 ?_
   have:jQ d=none:=by
    unfold jQ;rw[u];show(fC d f.2.2).map _=none
    have hd:f.2.2=f.2.2.take n++([p]++f.2.2.drop (n+1)):=by rw[←List.append_assoc,←e,bT]
    rw[hd,GH,H];show Option.map _ (match some ws,fC d (p::f.2.2.drop (n+1))with|some x,some y=>some (x++y)|_,_=>none)=none
    unfold fC;rw[J];rfl
   have o:=o h4 (Y.tr z);rw[this]at o;exact o
 ·have U:n=f.2.2.length:=by omega
  rw[U,bJ]at H;refine NextS.stop F (by rw[cu];omega) ?_;obtain⟨q1,q2⟩:=Cr (by omega) bnd _ _ D H;have:f.2.2.length*(3*20000+3)≤3*(3*20000+3):=gc _ hs2;refine TA (E.sl (W:=No) fun _ _ _ h=>h) ?_ E.cap (List.cons_ne_nil _ _) (by simp only[ay];omega) (fun x hx=>?_) fun h4 z=>?_
  ·rcases E.blk with h0|⟨b,_,hb,_⟩
   ·have:=E.cap;have:=E.len;simp only[ay]at this;omega
   ·exact⟨b,hb⟩
  ·rcases ar.1 hx with rfl|hx
   ·omega
   ·have:=q2 x hx;omega
  ·have ht:jQ d=some (pC 32 (f.2.1::ws)):=by
    unfold jQ;rw[u];show(fC d f.2.2).map _=_
    rw[H];rfl
   have o:=o h4 (kAu.tr z);rw[ht]at o;exact o
end Go.Proofs
namespace Go.Proofs
open Go Go.Lift
section
variable {h:ad} {n m:ByteArray} {id p:Int} {s:SliceV} {t:Tr}
end
theorem E9{n:ByteArray}(s:n.size≤1000000){h:ad}{K:Bool→ad→Prop}(d:K (ft n) h):HC PG uK [.string n] [.c .bool] K h:=by
 refine O0 n ?_;unfold FH;have f:n.data.toList.length=n.size:=Array.length_toList;refine LoopP.ghost (fun(i:Nat) (t:Int) h'=>t=(i:Int)∧h'=h∧i≤n.size∧∀b∈n.data.toList.take i,wK b=true) (fun i=>n.size-i) 0 ⟨rfl,rfl,aV _,by simp⟩ ?_
 rintro I i t h' ⟨rfl,rfl,hi,j⟩ q;refine aF (fun c=>?_) fun p=>?_
 ·have c:i<n.size:=by omega
  have a:i<n.data.toList.length:=by omega
  have o:n[(i:Int).toNat]? =some n.data.toList[i]:=by
   rw[ak,getElem?_pos n i c];rfl
  refine Join.intro (fun t m=>t=(!wK n.data.toList[i])∧m=h') (fun R k=>⟨_,by omega,o,aF (fun e=>k _ _ ⟨?_,rfl⟩) fun e=>⟨_,by omega,o,k _ _ ⟨?_,rfl⟩⟩⟩) ?_
  ·unfold wK;rw[decide_eq_false (by omega:¬33≤n.data.toList[i].toNat)];rfl
  ·unfold wK;rw[decide_eq_true (by omega:33≤n.data.toList[i].toNat),dj,←decide_not,decide_eq_decide];omega
  ·rintro _ m ⟨rfl,rfl⟩
   refine CondP.intro (fun e=>?_) fun e=>?_
   ·rw[show ft n=false from ?_]at d
    ·exact d
    ·unfold ft
     rw[show n.data.toList.all wK=false from List.all_eq_false.2 ⟨_,bZ a,by simpa using e⟩,Bool.and_false]
   ·rw[cM (n:=n.size) c (by omega)]
    refine q (i+1) _ _ ⟨rfl,rfl,by omega,?_⟩ (by omega)
    rw[List.take_succ_eq_append_getElem a];intro b g;rcases bD.1 g with g|g
    ·exact j b g
    ·rw[aO.1 g];simpa using e
 ·have:i=n.size:=by omega
  subst this;rw[←f,bJ]at j;refine aF (fun e=>?_) fun e=>?_
  ·rw[show ft n=decide ((n.size:Int)<33)from by unfold ft;rw[List.all_eq_true.2 j,decide_eq_true (by omega:1≤n.size),dj,Bool.and_true,decide_eq_decide];omega]at d
   exact d
  ·rw[show ft n=false from by unfold ft;rw[decide_eq_false (by omega:¬1≤n.size)];rfl]at d
   exact d
end Go.Proofs
namespace Go.Proofs
open Go Go.Lift Go.RowKit
theorem Sh(x:ByteArray)(i j:Nat):x.extract i j=aG ((x.data.toList.drop i).take (j-i)):=by
 apply wd;rw[gB];apply Array.toList_inj.1;rw[Array.toList_extract]
theorem Ig{M:Nat→Prop}{h:ad}{c:SliceV}{out:List (List UInt8)}{w:List UInt8}{x:ByteArray}(hx:x=aG w){K:SliceV→ad→Prop}(e:OwnS Cm 1 bR M h c out)(hM:∀b,h.size≤b→M b)(i:out.length+1≤1000000)
  (d:∀s' h',OwnS Cm 1 bR M h' s' (out++ [w])→Upd M h h'→K s' h'):
  At (hnew h [.string x] bR) fun a=>∃xs,SRow a (some (aH h)) (1*1) xs∧AppP (some [.string ⟨#[]⟩]) 1 16 bR c.a c.len c.cap 1 xs a K:=by
 subst hx;refine nP fun a b1 k1=>?_
 have g:=k1.size;have f:OwnS Cm 1 bR (fun _=>True) a ⟨some (aH h),1,1⟩ [w]:=Cq b1 trivial
 exact⟨_,(f.sl (W:=No) fun _ _ _ h=>h).srow,AppP.own (ys:= [w]) (e.upd k1 fun _ _ h=>h) rfl rfl rfl rfl (by omega) (by simp only[ay,bN];omega) (hM _ g) fun s' h' o u=>d s' h' o (k1.wide.tr u)⟩
theorem Nz{x:ByteArray}(hx:x.size≤100000){h:ad}{K:SliceV→ad→Prop}(C:∀h' s,OwnS Cm 1 bR (fun y=>h.size≤y) h' s (ix 32 x.data.toList)→Upd No h h'→K s h'):HC PG zA [.string x] [.c .slice] K h:=by
 refine OX x ?_;unfold FE;have D:=nI x;refine LoopP.ghost (fun(g:Nat×Nat×List (List UInt8)) (t:SliceV×Int×Int) h'=>t.2.1=(g.1:Int)∧t.2.2=(g.2.1:Int)∧g.1≤g.2.1∧g.2.1≤x.size∧g.2.2.length≤g.1∧(32:UInt8)∉(x.data.toList.drop g.1).take (g.2.1-g.1)∧ix 32 x.data.toList=g.2.2++ix 32 (x.data.toList.drop g.1)∧OwnS Cm 1 bR (fun y=>h.size≤y) h' t.1 g.2.2∧Upd No h h') (fun g=>x.size-g.2.1) (0,0,[]) ⟨rfl,rfl,av _,aV _,aV _,by simp,rfl,OwnS.nil yS,Upd.refl _ _⟩ ?_
 rintro I ⟨fr,i,out⟩ ⟨A,G,E⟩ h' ⟨e1,e2,o,hi,f,d,b,m,n⟩ z;simp only at e1 e2 o hi f d b m;subst e1 e2;have F:=n.size;refine aF (fun a=>Join.plain ?_) fun u=>?_
 ·have a:i<x.size:=by have:(i:Int)<(x.size:Int):=a;omega
  obtain⟨c,c1,B,_⟩:=QY a;have hd:(x.data.toList.drop fr).take (i+1-fr)=(x.data.toList.drop fr).take (i-fr)++ [c]:=by
   rw[show i+1-fr=(i-fr)+1 by omega,iI,List.getElem?_drop,show fr+(i-fr)=i by omega,B];rfl
  refine⟨c,by simp only;omega,c1,CondP.intro (fun e=>Join.plain ?_) fun e=>?_⟩
  ·have e:c=32:=by
    have e:(c.toNat:Int)=32:=by simpa using e
    exact UInt8.toNat_inj.1 (by show c.toNat=32;omega)
   subst e;refine⟨⟨by simp only;omega,by simp only;omega⟩,⟨by simp only;omega,by simp only[ak];omega⟩,Ig (by simp only[ak];exact Sh x fr i) m (fun y k=>by omega) (by omega) fun s' p q w=>?_⟩
   show I (s',ac .i64 ((i:Int)+1),ac .i64 ((i:Int)+1)) p
   rw[cM a (by omega)];have v:x.data.toList.drop fr=(x.data.toList.drop fr).take (i-fr)++32::x.data.toList.drop (i+1):=by
    conv=>lhs;rw[←bT (i+1-fr) (x.data.toList.drop fr),hd,List.drop_drop,show fr+(i+1-fr)=i+1 by omega]
    simp
   refine z (i+1,i+1,out++ [(x.data.toList.drop fr).take (i-fr)]) _ _ ⟨rfl,rfl,av _,a,by simp only[aj,List.length_singleton];omega,by simp,?_,q,n.trans w fun y k=>.inr k⟩ (by simp only;omega)
   have j:=zO (r:=x.data.toList.drop (i+1)) d;rw[←v]at j;rw[b,j];simp
  ·have e:c≠32:=fun e2=>by rw[e2]at e;exact absurd e (by decide)
   show I (A,(fr:Int),ac .i64 ((i:Int)+1)) h'
   rw[cM a (by omega)];refine z (fr,i+1,out) _ _ ⟨rfl,rfl,by simp only;omega,a,f,?_,b,m,n⟩ (by simp only;omega)
   show(32:UInt8)∉(x.data.toList.drop fr).take (i+1-fr)
   rw[hd];intro hm;rcases bD.1 hm with hm|hm
   ·exact d hm
   ·exact e (aO.1 hm).symm
 ·have hi:i=x.size:=by have:¬(i:Int)<(x.size:Int):=u;omega
  have e:(x.data.toList.drop fr).take (i-fr)=x.data.toList.drop fr:=List.take_of_length_le (by rw[List.length_drop];omega);rw[e]at d;have ex:=Sh x fr x.size;rw[←hi,e,hi]at ex;refine⟨⟨by simp only;omega,by simp only;omega⟩,Ig (by simp only[ak];exact ex) m (fun y k=>by omega) (by omega) fun s' p q w=>C p s' ?_ (n.trans w fun y k=>.inr k)⟩
  rw[b,wI d];exact q
theorem gU{w:List UInt8}(b:w.length≤1000000){h:ad}{K:ByteArray→ad→Prop}(a:∀h',Upd No h h'→K (dz w) h'):HC PG fY [.string (aG w)] [.c .str] K h:=by
 refine T9 (aG w) ?_;unfold K2;refine NA (by rw[cu];exact b) fun h' k=>?_
 rw[show(aG w).data.toList=w from by simp]
 have:=a h' k;unfold dz at this;cases e:i7 w with
 |none=>rw[e]at this;exact this
 |some s=>rw[e]at this;exact this
theorem jh{w:List UInt8}(b:w.length≤1000000){h:ad}{K:Int→ad→Prop}(a:K (fu w) h):HC PG ez [.string (aG w)] [.c (.int .u64)] K h:=by
 refine Mr (aG w) ?_;unfold DI;refine Lw (by rw[cu];exact b) ?_;rw[show(aG w).data.toList=w from by simp]
 unfold fu at a;cases e:mI w with
 |none=>rw[e]at a;exact a
 |some s=>rw[e]at a;exact a
theorem uA{n:Int}{h:ad}{K:Bool→ad→Prop}(a:K (cZ n) h):HC PG ph [.int .i64 n] [.c .bool] K h:=by
 refine OU n ?_;unfold FA;refine aF (fun e=>?_) fun e=>?_
 ·rw[show decide (n<2147483648)=cZ n from by unfold cZ;rw[decide_eq_true (show 0≤n by omega),dj,decide_eq_decide];omega];exact a
 ·rw[show false=cZ n from by unfold cZ;rw[decide_eq_false (show ¬0≤n by omega),iA]];exact a
theorem Hd{v:ByteArray}{is:Bool}(b:v.size≤20000){h:ad}{K:ByteArray→ad→Prop}(a:∀h',Upd No h h'→K (aG (iB v is)) h'):HC PG qy [.string v,.bool is] [.c .str] K h:=by
 refine Rb v is ?_;unfold Iy;cases is with
 |false=>exact aA.2 (a h (Upd.refl _ _))
 |true=>exact af.2 (pf (by omega) a)
abbrev namesL:List (List UInt8):=formsL.map (·.2.1)
theorem Hl{h:ad}{K:SliceV→ad→Prop}(b:∀h' s,Sl Cm 1 (fun y=>y<h.size) h' s namesL→s.len=26→Upd No h h'→K s h'):HC PG uH [] [.c .slice] K h:=by
 refine OV ?_;unfold FB ZC;have b1:=bI h (namesL.flatMap Cm) bR;have k1:=Upd.hnew No h (namesL.flatMap Cm) bR;refine bj ?_;show K ⟨some (aH h),26,26⟩ (hnew h (namesL.flatMap Cm) bR)
 generalize hnew h (namesL.flatMap Cm) bR=h1 at b1 k1;exact b h1 _ ⟨rfl,yS,fun _=>⟨_,rfl,fun e=>absurd e (Nat.lt_irrefl _),py b1 fun i v a=>by rw[Nat.zero_add,List.getElem?_toArray];exact a⟩⟩ rfl k1
theorem Oj:∀i:Fin 26,∃f,formsL[i.val]? =some f∧f.1=((i.val:Nat):Int)∧namesL[i.val]? =some f.2.1∧f∈formsL:=by decide+kernel
def fg(f:Int×List UInt8×List UInt8):Prop:=(f.1=0∨f.1=2∨f.1=7→f.2.2= [98,105])∧(f.1=1∨f.1=3→f.2.2= [98])∧(f.1=4→f.2.2= [98,107,118])∧(f.1=5→f.2.2= [98,107])∧(f.1=6→f.2.2= [98,112])∧(f.1=8→f.2.2= [98,111,119])∧(f.1=10→f.2.2= [105,107])∧(f.1=11∨f.1=14→f.2.2= [105])∧(f.1=12→f.2.2= [105,116])∧(f.1=13→f.2.2= [98,99])∧(f.1=15→f.2.2= [115,107,118])∧(f.1=16∨f.1=17→f.2.2= [115,107])∧(f.1=18∨f.1=20→f.2.2= [115])∧(f.1=19→f.2.2= [115,98])∧(f.1=21→f.2.2= [105,107,119])∧(f.1=22→f.2.2= [105,114])∧(¬(f.1=0∨f.1=2∨f.1=7∨f.1=1∨f.1=3∨f.1=4∨f.1=5∨f.1=6∨f.1=8∨f.1=10∨f.1=11∨f.1=14∨f.1=12∨f.1=13∨f.1=15∨f.1=16∨f.1=17∨f.1=18∨f.1=20∨f.1=19∨f.1=21∨f.1=22)→f.2.2= [])
theorem VR:∀f∈formsL,fg f:=by
 intro f a;simp only[formsL,ar,bX,or_false]at a;rcases a with rfl|rfl|rfl|rfl|rfl|rfl|rfl|rfl|rfl|rfl|rfl|rfl|rfl|rfl|rfl|rfl|rfl|rfl|rfl|rfl|rfl|rfl|rfl|rfl|rfl|rfl<;>(unfold fg;refine⟨?_,?_,?_,?_,?_,?_,?_,?_,?_,?_,?_,?_,?_,?_,?_,?_,?_⟩)<;>decide
theorem or2{v a b:Int}{h:ad}{P:Bool→ad→Prop}(c:P (v==a||v==b) h):CondP (v==a) (P (v==a) h) (P (v==b) h):=
 CondP.intro (fun e=>by rw[e]at c⊢;exact c) fun e=>by rw[e]at c;exact c
theorem or3{v a b c:Int}{h:ad}{P:Bool→ad→Prop}(d:P (v==a||(v==b||v==c)) h):CondP (v==a) (P (v==a) h) (CondP (v==b) (P (v==b) h) (P (v==c) h)):=
 CondP.intro (fun e=>by rw[e]at d⊢;exact d) fun e=>by rw[e,lR]at d;exact or2 d
theorem N7{v a b:Int}{h:ad}{R:Bool→ad→Prop}(c:R (v==a||v==b) h):Join R (fun J=>CondP (v==a) (J (v==a) h) (J (v==b) h)):=
 Join.plain (or2 (P:=R) c)
theorem aae{v a b c:Int}{h:ad}{R:Bool→ad→Prop}(d:R (v==a||(v==b||v==c)) h):Join R (fun J=>CondP (v==a) (J (v==a) h) (CondP (v==b) (J (v==b) h) (J (v==c) h))):=
 Join.plain (or3 (P:=R) d)
theorem N9(c:UInt8)(w u:List UInt8)(l:List (List UInt8)):pC c (w::u::l)=w++c::pC c (u::l):=rfl
def blk(l:List (List UInt8)):List UInt8:=l.flatMap fun w=>32::w
theorem Es:∀(w:List UInt8) (l:List (List UInt8)),pC 32 (w::l)=w++blk l
 |w,[]=>by simp[blk,pC]
 |w,u::l=>by rw[N9,Es u l];simp[blk]
theorem Sx(a b:List (List UInt8)):blk (a++b)=blk a++blk b:=by unfold blk;rw[cc]
end Go.Proofs
namespace Go.Proofs
open Go Go.Lift Go.RowKit
theorem UD(d:OpD):Cl 98 d=if ft d.b then some [d.b.data.toList]else none:=rfl
theorem YA(d:OpD):Cl 111 d=if ft d.o then some [d.o.data.toList]else none:=rfl
theorem SH(d:OpD):Cl 107 d=some [eJ d.key]:=rfl
theorem Zx(d:OpD):Cl 118 d=some [eJ d.v]:=rfl
theorem PB(d:OpD):Cl 105 d=some [dL d.i.toNat]:=rfl
theorem aaF(d:OpD):Cl 116 d=some [dL d.t.toNat]:=rfl
theorem UE(d:OpD):Cl 115 d=if cZ d.s then some [dL d.s.toNat]else none:=rfl
theorem W6(d:OpD):Cl 119 d=if cZ d.w then some [dL d.w.toNat]else none:=rfl
theorem Zy(d:OpD):Cl 114 d=some [eJ d.fr,if d.op then[42]else eJ d.up,if d.back then iw else Gk]:=rfl
theorem aaG(d:OpD):Cl 112 d=some (mH d.ps):=rfl
theorem w99(d:OpD):Cl 99 d=mq d.cs:=rfl
theorem vE(d:OpD):fC d []=some []:=rfl
theorem wq(d:OpD)(p:UInt8)(l:List UInt8):fC d (p::l)=match Cl p d,fC d l with|some a,some b=>some (a++b)|_,_=>none:=rfl
theorem aaR{d:OpD}{f:Int×List UInt8×List UInt8}(b:f∈formsL)(e:f.1=d.k){a:List UInt8}(c:f.2.2=a):jQ d=(fC d a).map fun l=>f.2.1++blk l:=by
 unfold jQ;rw[QL b e];simp only[Es];rw[c]
section
variable {d:OpD} {sp sc:SliceV} {h:ad}
theorem SO(sm:SmallD d)(B:Sl iZ 2 No h sp d.ps){s0:List UInt8}(u:s0.length≤100000){K:ByteArray→ad→Prop}(U:∀h',Upd No h h'→K (aG (s0++blk (mH d.ps))) h'){o:ByteArray}(es:o=aG s0):
  LoopP (fun(s:ByteArray×Int→ad→Prop) (e:ByteArray×Int) b=>CondP (decide (e.2<(sp.len:Int))) (
    (((0:Int)≤e.2∧e.2<((sp.len:Nat):Int))∧∃a58:Addr,sp.a=some a58∧
     ∃v59:ByteArray,aD b (adr (adr a58 (e.2.toNat*2)) 0)=some (.string v59)∧
     ∃v60:ByteArray,aD b (adr (adr a58 (e.2.toNat*2)) 1)=some (.string v60)∧
     At (hnew b [.string (⟨#[]⟩:ByteArray),.string (⟨#[]⟩:ByteArray)] ln) (fun m=>
      (tc m (some (aH b)) 0 [.string v59,.string v60]∧
       At (ir m (aH b) 0 [.string v59,.string v60]) (fun j=>
        ∃v63:ByteArray,aD j (adr (aH b) 0)=some (.string v63)∧
        ∃v64:ByteArray,aD j (adr (aH b) 1)=some (.string v64)∧
        HC PG ji [.string v63] [.c .str] (fun(g:ByteArray) n=>
         (aD n (adr (aH b) 1)=some (.string v64)∧
          ((((⟨#[32]⟩:ByteArray).size+g.size:Nat):Int)≤9223372036854775807∧
           (((((⟨#[32]⟩:ByteArray)++g).size+(⟨#[32]⟩:ByteArray).size:Nat):Int)≤9223372036854775807∧
            HC PG ji [.string v64] [.c .str] (fun(k:ByteArray) x=>
             ((((((⟨#[32]⟩:ByteArray)++g)++(⟨#[32]⟩:ByteArray)).size+k.size:Nat):Int)≤9223372036854775807∧
              (((e.1.size+((((⟨#[32]⟩:ByteArray)++g)++(⟨#[32]⟩:ByteArray))++k).size:Nat):Int)≤9223372036854775807∧
               Bd (e.1++((((⟨#[32]⟩:ByteArray)++g)++(⟨#[32]⟩:ByteArray))++k):ByteArray) (fun q=>
               s (q,ac .i64 (e.2+1)) x)))) n)))) j))))) (
    K e.1 b)) (o,0) h:=by
 subst es;have Z:=B.len;have hn:=sm.ps.1;refine LoopP.ghost (fun(i:Nat) (t:ByteArray×Int) h'=>t.2=(i:Int)∧i≤d.ps.length∧t.1=aG (s0++blk (mH (d.ps.take i)))∧(s0++blk (mH (d.ps.take i))).length≤100000+i*100000∧Upd No h h') (fun i=>d.ps.length-i) 0 ⟨rfl,aV _,by simp[mH,blk],by simpa[mH,blk]using u,Upd.refl _ _⟩ ?_
 rintro I i ⟨ts,ti⟩ h' ⟨e1,hi,e2,O,y⟩ E;simp only at e1 e2;subst e1 e2;refine aF (fun f=>?_) fun v=>?_
 ·have f:i<d.ps.length:=by have:(i:Int)<(sp.len:Int):=f;omega
  obtain⟨a,Q,_,w⟩:=(B.upd y fun _ h=>h.elim).at (ah f)
  obtain⟨P,G⟩:=sm.ps.2 _ (bZ f);have C:=E0 f;generalize d.ps[i]=p at w P G C;have S:=oh p.1;have L:=oh p.2;have N:(lU p.1.data.toList).length≤2*p.1.size+1:=S;have W:(lU p.2.data.toList).length≤2*p.2.size+1:=L;have V:(⟨#[32]⟩:ByteArray).size=1:=rfl;have y1:(aG (lU p.1.data.toList)).size≤40001:=by rw[cu];omega
  have y2:(aG (lU p.2.data.toList)).size≤40001:=by rw[cu];omega
  have Y:(aG (s0++blk (mH (d.ps.take i)))).size≤100000+i*100000:=by rw[cu];exact O
  have yi:i*100000≤20000*100000:=gc _ (by omega);refine⟨⟨by simp only;omega,by simp only;omega⟩,a,Q,p.1,?_,p.2,?_,nP fun X b2 F=>cS (c:= [.string ⟨#[]⟩,.string ⟨#[]⟩]) (vs:=iZ p) b2 rfl fun R b3 D=>⟨_,vc b3 0,_,vc b3 1,pf (by omega) fun h4 A=>⟨vc (A.get0 b3) 1,by omega,by rw[aE];omega,pf (by omega) fun H T=>⟨by simp only[aE];omega,by simp only[aE];omega,Ft ?_⟩⟩⟩⟩
  ·simp only[ak];exact w 0 _ rfl
  ·simp only[ak];exact w 1 _ rfl
  have J:Upd No h' R:=F.own D (av _);have z:s0++blk (mH (d.ps.take (i+1)))=(s0++blk (mH (d.ps.take i)))++((([32]++eJ p.1)++ [32])++eJ p.2):=by
   rw[C,NG,Sx];simp[mH,blk]
  show I (_,ac .i64 ((i:Int)+1)) H
  rw[cM f (by omega)];refine E (i+1) _ _ ⟨rfl,f,?_,?_,((y.tr J).tr A).tr T⟩ (by omega)
  ·rw[z]
   simp only[rc]
  ·rw[z,aj]
   simp only[aj,ay,bN]at*;omega
 ·have hi:i=d.ps.length:=by have:¬(i:Int)<(sp.len:Int):=v;omega
  have:=U h' y;rw[hi,bJ];exact this
def yJ(l:List Ch):List (List UInt8):=l.flatMap fun c=> [eJ c.1,iB c.2.1 c.2.2.2.1,iB c.2.2.1 c.2.2.2.2]
def yK(l:List Ch):Bool:=l.all fun c=>iC c.2.1 c.2.2.2.1&&iC c.2.2.1 c.2.2.2.2
theorem Sr:∀l:List Ch,mq l=if yK l then some (yJ l)else none
 | []=>rfl
 |c::l=>by
  unfold mq X4;rw[Sr l];show _=if(iC c.2.1 c.2.2.2.1&&iC c.2.2.1 c.2.2.2.2)&&yK l then some ([eJ c.1,iB c.2.1 c.2.2.2.1,iB c.2.2.1 c.2.2.2.2]++yJ l)else none
  cases iC c.2.1 c.2.2.2.1<;>cases iC c.2.2.1 c.2.2.2.2<;>cases yK l<;>rfl
theorem Wm(a b:List Ch):yK (a++b)=(yK a&&yK b):=by unfold yK;rw[List.all_append]
theorem Wl(a b:List Ch):yJ (a++b)=yJ a++yJ b:=by unfold yJ;rw[cc]
theorem SP(sm:SmallD d)(hc:Sl oX 5 No h sc d.cs){s0:List UInt8}(P:s0.length≤100000){nb:Bool}{J:ByteArray×Bool→ad→Prop}(hk:∀h',Upd No h h'→J (aG (s0++blk (yJ d.cs)),nb&&yK d.cs) h'){N:ByteArray}(es:N=aG s0):
  LoopP (fun(O:ByteArray×Bool×Int→ad→Prop) (e:ByteArray×Bool×Int) b=>CondP (decide (e.2.2<(sc.len:Int))) (
    Join (fun(A:ByteArray×Bool) K=>O (A.1,A.2,ac .i64 (e.2.2+1)) K) (fun u=>
     (((0:Int)≤e.2.2∧e.2.2<((sc.len:Nat):Int))∧∃a91:Addr,sc.a=some a91∧
      ∃v92:ByteArray,aD b (adr (adr a91 (e.2.2.toNat*5)) 0)=some (.string v92)∧
      ∃v93:ByteArray,aD b (adr (adr a91 (e.2.2.toNat*5)) 1)=some (.string v93)∧
      ∃v94:ByteArray,aD b (adr (adr a91 (e.2.2.toNat*5)) 2)=some (.string v94)∧
      ∃v95:Bool,aD b (adr (adr a91 (e.2.2.toNat*5)) 3)=some (.bool v95)∧
      ∃v96:Bool,aD b (adr (adr a91 (e.2.2.toNat*5)) 4)=some (.bool v96)∧
      At (hnew b [.string (⟨#[]⟩:ByteArray),.string (⟨#[]⟩:ByteArray),.string (⟨#[]⟩:ByteArray),.bool false,.bool false] ie) (fun L=>
       (tc L (some (aH b)) 0 [.string v92,.string v93,.string v94,.bool v95,.bool v96]∧
        At (ir L (aH b) 0 [.string v92,.string v93,.string v94,.bool v95,.bool v96]) (fun v=>
         ∃v99:ByteArray,aD v (adr (aH b) 0)=some (.string v99)∧
         ∃v100:ByteArray,aD v (adr (aH b) 1)=some (.string v100)∧
         ∃v101:Bool,aD v (adr (aH b) 3)=some (.bool v101)∧
         ∃v102:ByteArray,aD v (adr (aH b) 2)=some (.string v102)∧
         ∃v103:Bool,aD v (adr (aH b) 4)=some (.bool v103)∧
         HC PG ji [.string v99] [.c .str] (fun(m:ByteArray) n=>
         (aD n (adr (aH b) 4)=some (.bool v103)∧
         (aD n (adr (aH b) 2)=some (.string v102)∧
         (aD n (adr (aH b) 3)=some (.bool v101)∧
         (aD n (adr (aH b) 1)=some (.string v100)∧
         ((((⟨#[32]⟩:ByteArray).size+m.size:Nat):Int)≤9223372036854775807∧
         (((((⟨#[32]⟩:ByteArray)++m).size+(⟨#[32]⟩:ByteArray).size:Nat):Int)≤9223372036854775807∧
         HC PG qy [.string v100,.bool v101] [.c .str] (fun(w:ByteArray) y=>
         (aD y (adr (aH b) 4)=some (.bool v103)∧
         (aD y (adr (aH b) 2)=some (.string v102)∧
         ((((((⟨#[32]⟩:ByteArray)++m)++(⟨#[32]⟩:ByteArray)).size+w.size:Nat):Int)≤9223372036854775807∧
         (((((((⟨#[32]⟩:ByteArray)++m)++(⟨#[32]⟩:ByteArray))++w).size+(⟨#[32]⟩:ByteArray).size:Nat):Int)≤9223372036854775807∧
         Bd (((((⟨#[32]⟩:ByteArray)++m)++(⟨#[32]⟩:ByteArray))++w)++(⟨#[32]⟩:ByteArray):ByteArray) (fun g=>
         HC PG qy [.string v102,.bool v103] [.c .str] (fun(j:ByteArray) f=>
         (((g.size+j.size:Nat):Int)≤9223372036854775807∧
         (((e.1.size+(g++j).size:Nat):Int)≤9223372036854775807∧
         CondP e.2.1 (
         ∃v111:Bool,aD f (adr (aH b) 3)=some (.bool v111)∧
         CondP v111 (
         ∃v112:Bool,aD f (adr (aH b) 4)=some (.bool v112)∧
         CondP v112 (
         u (e.1++(g++j),true) f) (
         ∃v113:ByteArray,aD f (adr (aH b) 2)=some (.string v113)∧
         u (e.1++(g++j),v113.toList==(⟨#[]⟩:ByteArray).toList) f)) (
         ∃v114:ByteArray,aD f (adr (aH b) 1)=some (.string v114)∧
         CondP (v114.toList==(⟨#[]⟩:ByteArray).toList) (
         ∃v115:Bool,aD f (adr (aH b) 4)=some (.bool v115)∧
         CondP v115 (
         u (e.1++(g++j),true) f) (
         ∃v116:ByteArray,aD f (adr (aH b) 2)=some (.string v116)∧
         u (e.1++(g++j),v116.toList==(⟨#[]⟩:ByteArray).toList) f)) (
         u (e.1++(g++j),false) f))) (
         u (e.1++(g++j),false) f)))) y)))))) n))))))) v)))))) (
    J (e.1,e.2.1) b)) (N,nb,0) h:=by
 subst es;have hl:=hc.len;have hn:=sm.cs.1;refine LoopP.ghost (fun(i:Nat) (t:ByteArray×Bool×Int) h'=>t.2.2=(i:Int)∧i≤d.cs.length∧t.1=aG (s0++blk (yJ (d.cs.take i)))∧t.2.1=(nb&&yK (d.cs.take i))∧(s0++blk (yJ (d.cs.take i))).length≤100000+i*200000∧Upd No h h') (fun i=>d.cs.length-i) 0 ⟨rfl,aV _,by simp[yJ,blk],by simp[yK],by simpa[yJ,blk]using P,Upd.refl _ _⟩ ?_
 rintro I i ⟨ts,tb,ti⟩ h' ⟨e1,hi,e2,G,hb,U⟩ hI;simp only at e1 e2 G;subst e1 e2 G;refine aF (fun p=>Join.plain ?_) fun R=>?_
 ·have p:i<d.cs.length:=by have:(i:Int)<(sc.len:Int):=p;omega
  obtain⟨a,ha,_,E⟩:=(hc.upd U fun _ h=>h.elim).at (ah p)
  obtain⟨q1,X,Z⟩:=sm.cs.2 _ (bZ p);have T:=E0 p;generalize d.cs[i]=c at E q1 X Z T;have x1:=oh c.1;have x1':(lU c.1.data.toList).length≤2*c.1.size+1:=x1;have x2:=Ak c.2.1 c.2.2.2.1;have x3:=Ak c.2.2.1 c.2.2.2.2;have s32:(⟨#[32]⟩:ByteArray).size=1:=rfl;have y1:(aG (lU c.1.data.toList)).size≤40001:=by rw[cu];omega
  have y2:(aG (iB c.2.1 c.2.2.2.1)).size≤40001:=by rw[cu];omega
  have y3:(aG (iB c.2.2.1 c.2.2.2.2)).size≤40001:=by rw[cu];omega
  have y0:(aG (s0++blk (yJ (d.cs.take i)))).size≤100000+i*200000:=by rw[cu];exact hb
  have yi:i*200000≤20000*200000:=gc _ (by omega);refine⟨⟨by simp only;omega,by simp only;omega⟩,a,ha,c.1,?_,c.2.1,?_,c.2.2.1,?_,c.2.2.2.1,?_,c.2.2.2.2,?_,nP fun V b2 k2=>cS (c:= [.string ⟨#[]⟩,.string ⟨#[]⟩,.string ⟨#[]⟩,.bool false,.bool false]) (vs:=oX c) b2 rfl fun h3 b3 u3=>⟨_,vc b3 0,_,vc b3 1,_,vc b3 3,_,vc b3 2,_,vc b3 4,pf (by omega) fun h4 Y=>?_⟩⟩
  ·simp only[ak];exact E 0 _ rfl
  ·simp only[ak];exact E 1 _ rfl
  ·simp only[ak];exact E 2 _ rfl
  ·simp only[ak];exact E 3 _ rfl
  ·simp only[ak];exact E 4 _ rfl
  have H:=Y.get0 b3;refine⟨vc H 4,vc H 2,vc H 3,vc H 1,by omega,by rw[aE];omega,Hd X fun h5 k5=>?_⟩
  have Q:=k5.get0 H;refine⟨vc Q 4,vc Q 2,by simp only[aE];omega,by simp only[aE];omega,Ft (Hd Z fun h6 W=>⟨by simp only[aE];omega,by simp only[aE];omega,?_⟩)⟩
  have D:=W.get0 Q;have k3:Upd No h' h3:=k2.own u3 (av _);have S:=(((U.tr k3).tr Y).tr k5).tr W;have G:s0++blk (yJ (d.cs.take (i+1)))=(s0++blk (yJ (d.cs.take i)))++((((([32]++eJ c.1)++ [32])++iB c.2.1 c.2.2.2.1)++ [32])++iB c.2.2.1 c.2.2.2.2):=by
   rw[T,Wl,Sx];simp[yJ,blk]
  have e4:yK (d.cs.take (i+1))=(yK (d.cs.take i)&&(iC c.2.1 c.2.2.2.1&&iC c.2.2.1 c.2.2.2.2)):=by
   rw[T,Wm];simp[yK]
  have go:∀(s:ByteArray) (o:Bool),s=aG (s0++blk (yJ (d.cs.take (i+1))))→o=(nb&&yK (d.cs.take (i+1)))→I (s,o,ac .i64 ((i:Int)+1)) h6:=fun s o es eo=>by
   rw[cM p (by omega)];refine hI (i+1) _ _ ⟨rfl,p,es,eo,?_,S⟩ (by omega);rw[G,aj];simp only[aj,ay,bN]at*;omega
  have es:aG (s0++blk (yJ (d.cs.take i)))++((((((⟨#[32]⟩:ByteArray)++aG (lU c.1.data.toList))++(⟨#[32]⟩:ByteArray))++aG (iB c.2.1 c.2.2.2.1))++(⟨#[32]⟩:ByteArray))++aG (iB c.2.2.1 c.2.2.2.2))=aG (s0++blk (yJ (d.cs.take (i+1)))):=by
   rw[G];simp only[rc]
  have z:∀o:Bool,(nb&&yK (d.cs.take i))=true→o=(iC c.2.1 c.2.2.2.1&&iC c.2.2.1 c.2.2.2.2)→o=(nb&&yK (d.cs.take (i+1))):=fun o h1 V=>by
   rw[e4,←Bool.and_assoc,h1,dj];exact V
  have q:∀x:ByteArray,(x.toList==(⟨#[]⟩:ByteArray).toList)=decide (x.data.toList= []):=fun x=>Ar
  refine CondP.intro (fun k=>⟨c.2.2.2.1,vc D 3,CondP.intro (fun F=>⟨c.2.2.2.2,vc D 4,CondP.intro (fun C=>go _ _ es (z _ k ?_)) fun C=>⟨c.2.2.1,vc D 2,go _ _ es (z _ k ?_)⟩⟩) fun F=>⟨c.2.1,vc D 1,CondP.intro (fun B=>⟨c.2.2.2.2,vc D 4,CondP.intro (fun C=>go _ _ es (z _ k ?_)) fun C=>⟨c.2.2.1,vc D 2,go _ _ es (z _ k ?_)⟩⟩) fun B=>go _ _ es (z _ k ?_)⟩⟩) fun k=>go _ _ es ?_
  ·simp only[iC,F,C,p9,dj]
  ·rw[q];simp only[iC,F,C,p9,lR,dj]
  ·rw[q]at B;simp only[iC,F,C,B,p9,lR,dj]
  ·rw[q]at B⊢;simp only[iC,F,C,B,lR,dj]
  ·rw[q]at B;simp only[iC,F,B,lR,iA]
  ·have k:(nb&&yK (d.cs.take i))=false:=k
   rw[e4,←Bool.and_assoc,k,iA]
 ·have hi:i=d.cs.length:=by have:¬(i:Int)<(sc.len:Int):=R;omega
  have:=hk h' U;rw[hi,bJ];exact this
end
end Go.Proofs
namespace Go.Proofs
open Go Go.Lift Go.RowKit
set_option maxHeartbeats 4000000 in
theorem He{d:OpD}{sp sc:SliceV}{h:ad}(sm:SmallD d)(hps:Sl iZ 2 No h sp d.ps)(hcs:Sl oX 5 No h sc d.cs){K:ByteArray→ad→Prop}(o:∀h',Upd No h h'→K (aG ((jQ d).getD [])) h'):HC PG xK [LG (mo d sp sc)] [.c .str] K h:=by
 refine Rc (mo d sp sc) ?_;unfold Iz bi cU ao bC ag aX aI nv BI bL cI ic eu rO my MW;refine nP fun h1 b1 k1=>Hl fun h3 ns hs hns k3=>?_
 have b3:=k3.get0 b1;have W:=k1.tr k3;refine Join.intro (fun(t:Bool) h'=>h'=h3∧t=decide (d.k<0∨26≤d.k)) (fun R C=>⟨d.k,vc b3 0,aF (fun e=>C _ _ ⟨rfl,(decide_eq_true (.inl e)).symm⟩) fun e=>⟨d.k,vc b3 0,C _ _ ⟨rfl,?_⟩⟩⟩) ?_
 ·rw[hns,decide_eq_decide];omega
 rintro t h' ⟨rfl,rfl⟩;refine aF (fun e=>?_) fun e=>?_
 ·have:jQ d=none:=by
   unfold jQ;rw[jt.2 fun f hf=>?_]
   have h26:∀f∈formsL,0≤f.1∧f.1<26:=by decide+kernel
   have:=h26 f hf;simp only[beq_iff_eq];omega
  have o:=o h' W;rw[this]at o;exact o
 obtain⟨k,U⟩:∃k:Nat,d.k=(k:Int):=⟨d.k.toNat,by omega⟩
 have hk26:k<26:=by omega
 obtain⟨f,hfi,hfk,Y,G⟩:=Oj ⟨k,hk26⟩;simp only at hfi hfk Y;have X:f.1=d.k:=by rw[hfk,U]
 obtain⟨g0,g1,g4,g5,g6,g8,g10,Q,g12,g13,g15,g16,g18,S,g21,g22,gz⟩:=VR f G;rw[X]at g0 g1 g4 g5 g6 g8 g10 Q g12 g13 g15 g16 g18 S g21 g22 gz;obtain⟨a,ha,_,hat⟩:=hs.at0 (g:=fun w=>Value.string (aG w)) Y
 have hf8:=(HK f G).1;obtain⟨n1,n2,n3,n4⟩:=sm.num;have sb':=sm.b;have so':=sm.o;have sk':=sm.key;have sv':=sm.v;have sfr':=sm.fr;have sup':=sm.up;have s32:(⟨#[32]⟩:ByteArray).size=1:=rfl;have yb:(aG d.b.data.toList).size≤20000:=by rw[cu,nI];omega
 refine⟨d.k,vc b3 0,⟨by omega,by omega⟩,a,ha,aG f.2.1,by rw[U,ak];exact hat,aG d.b.data.toList,vc b3 1,by omega,d.i,vc b3 5,?_⟩
 rw[show ac .u64 d.i=((d.i.toNat:Nat):Int)from by rw[dZ];omega]
 have xi:=KS (n:=d.i.toNat) (by omega);have xk:(lU d.key.data.toList).length≤2*d.key.size+1:=oh d.key;have xv:(lU d.v.data.toList).length≤2*d.v.size+1:=oh d.v;have xfr:(lU d.fr.data.toList).length≤2*d.fr.size+1:=oh d.fr;have xup:(lU d.up.data.toList).length≤2*d.up.size+1:=oh d.up;have yo:(aG d.o.data.toList).size≤20000:=by rw[cu,nI];omega
 have ynm:(aG f.2.1).size≤8:=by rw[cu];omega
 have yi:(aG (dL d.i.toNat)).size≤20:=by rw[cu];omega
 have yk:(aG (lU d.key.data.toList)).size≤40001:=by rw[cu];omega
 have yv:(aG (lU d.v.data.toList)).size≤40001:=by rw[cu];omega
 have yfr:(aG (lU d.fr.data.toList)).size≤40001:=by rw[cu];omega
 have yup:(aG (lU d.up.data.toList)).size≤40001:=by rw[cu];omega
 refine Ej d.i.toNat (by omega) ⟨by omega,d.key,vc b3 3,d.v,vc b3 4,pf (by omega) fun h5 k5=>⟨vc (k5.get0 b3) 4,by omega,pf (by omega) fun O k6=>⟨by omega,?_⟩⟩⟩
 have i:=k6.get0 (k5.get0 b3);have b:=(W.tr k5).tr k6;refine⟨d.b,vc i 1,d.s,vc i 7,E9 (by omega) ⟨vc i 7,uA ?_⟩⟩;have num:∀{n:Int} {j:Nat} {P:ByteArray→ad→Prop},aD O (adr ⟨h.size,0,none⟩ j)=some (.int .i64 n)→(∀w,w=32::(if cZ n then dL n.toNat else[])→w.length≤21→P (aG w) O)→Join P (fun T=>CondP (cZ n) (∃v29:Int,aD O (adr (aH h) j)=some (.int .i64 v29)∧HC PG pi [.int .u64 (ac .u64 v29)] [.c .str] (fun(Z:ByteArray) h31=>((((⟨#[32]⟩:ByteArray).size+Z.size:Nat):Int)≤9223372036854775807∧T ((⟨#[32]⟩:ByteArray)++Z) h31)) O) (T (⟨#[32]⟩:ByteArray) O)):=by
  intro n j P hc u;refine Join.plain (CondP.intro (fun e=>?_) fun e=>?_)
  ·have e2:=e
   simp only[cZ,aJ,decide_eq_true_eq]at e2;rw[e]at u;have u:=u _ rfl;rw[if_pos rfl]at u;refine⟨n,hc,?_⟩;rw[show ac .u64 n=((n.toNat:Nat):Int)from by rw[dZ];omega]
   have x:=KS (n:=n.toNat) (by omega);have y:(aG (dL n.toNat)).size≤20:=by rw[cu];omega
   refine Ej n.toNat (by omega) ⟨by omega,?_⟩;rw[show(⟨#[32]⟩:ByteArray)++aG (dL n.toNat)=aG (32::dL n.toNat)from rc [32] _]
   exact u (by simp only[ay];omega)
  ·rw[e]at u
   exact u _ rfl (by simp)
 refine num (vc i 7) fun ns1 p hns1=>?_
 have ys:(aG ns1).size≤21:=by rw[cu];exact hns1
 have q:= @num d.w 8;refine Join.intro (fun(t:ByteArray) h'=>h'=O∧∃w,t=aG w∧w=32::(if cZ d.w then dL d.w.toNat else[])∧w.length≤21) (fun R C=>⟨d.w,vc i 8,uA ?_⟩) ?_
 ·have:=q (P:=fun t h'=>R t h') (vc i 8) fun w e1 e2=>C _ _ ⟨rfl,w,rfl,e1,e2⟩
  exact this.run
 rintro _ h7 ⟨rfl,ws1,rfl,ews,hws1⟩;have yw:(aG ws1).size≤21:=by rw[cu];exact hws1
 refine Join.intro (fun(t:ByteArray×Bool) h'=>Upd No h h'∧(if t.2 then t.1.data.toList else[])=(jQ d).getD []) (fun J c=>?_) ?_
 rotate_left
 ·rintro⟨t1,t2⟩ h' ⟨kk,et⟩
  have o:=o h' kk;rw[←et]at o;cases t2 with
  |true=>exact af.2 o
  |false=>exact aA.2 o
 clear num q;have m:∀{pt:List UInt8},f.2.2=pt→jQ d=(fC d pt).map fun l=>f.2.1++blk l:=fun hp=>aaR G X hp
 refine⟨d.k,vc i 0,aae ((CondP.intro (fun e0=>?_) fun e0=>N7 ((CondP.intro (fun e1=>?_) fun e1=>CondP.intro (fun e4=>?_) fun e4=>CondP.intro (fun e5=>?_) fun e5=>CondP.intro (fun e6=>?_) fun e6=>CondP.intro (fun e8=>?_) fun e8=>CondP.intro (fun L=>?_) fun L=>N7 ((CondP.intro (fun B=>?_) fun B=>CondP.intro (fun I=>?_) fun I=>CondP.intro (fun F=>?_) fun F=>CondP.intro (fun v=>?_) fun v=>N7 ((CondP.intro (fun N=>?_) fun N=>N7 ((CondP.intro (fun H=>?_) fun H=>CondP.intro (fun E=>?_) fun E=>CondP.intro (fun A=>?_) fun A=>CondP.intro (fun z=>?_) fun z=>?_))))))))))⟩
 ·have g:=m (g0 (by simpa using e0))
  refine⟨by(try simp only[aE]);omega,by(try simp only[aE]);omega,Ft (c _ _ ⟨b,?_⟩)⟩
  rw[g];simp only[wq,vE,UD,PB];cases ft d.b<;>simp[blk]
 ·have g:=m (g1 (by simpa using e1))
  refine⟨by(try simp only[aE]);omega,c _ _ ⟨b,?_⟩⟩;rw[g];simp only[wq,vE,UD];cases ft d.b<;>simp[blk]
 ·have g:=m (g4 (by simpa using e4))
  refine⟨by(try simp only[aE]);omega,by(try simp only[aE]);omega,Ft ⟨by(try simp only[aE]);omega,c _ _ ⟨b,?_⟩⟩⟩
  rw[g];simp only[wq,vE,UD,SH,Zx];cases ft d.b<;>simp[blk]
 ·have g:=m (g5 (by simpa using e5))
  refine⟨by(try simp only[aE]);omega,by(try simp only[aE]);omega,Ft (c _ _ ⟨b,?_⟩)⟩
  rw[g];simp only[wq,vE,UD,SH];cases ft d.b<;>simp[blk]
 ·have g:=m (g6 (by simpa using e6))
  refine⟨by(try simp only[aE]);omega,sp,vc i 13,SO (K:=fun s h9=>J (s,_) h9) (s0:=f.2.1++([32]++d.b.data.toList)) sm (hps.upd b fun _ h=>h.elim) (by simp only[aj,ay,bN,nI];omega) (fun h8 D=>c _ _ ⟨b.tr D,?_⟩) (by simp only[rc])⟩
  rw[g];simp only[wq,vE,UD,aaG];cases ft d.b<;>simp[blk]
 ·have g:=m (g8 (by simpa using e8))
  refine⟨by(try simp only[aE]);omega,by(try simp only[aE]);omega,aG d.o.data.toList,vc i 2,by(try simp only[aE]);omega,Ft ⟨by(try simp only[aE]);omega,CondP.intro (fun nb=>⟨d.o,vc i 2,E9 (by omega) ⟨vc i 2,CondP.intro (fun no=>⟨d.w,vc i 8,uA ⟨vc i 2,c _ _ ⟨b,?_⟩⟩⟩) fun no=>c _ _ ⟨b,?_⟩⟩⟩) fun nb=>c _ _ ⟨b,?_⟩⟩⟩
  ·rw[g];simp only[wq,vE,UD,YA,W6,ews,nb,no];cases cZ d.w<;>simp[blk]
  ·rw[g];simp only[wq,vE,UD,YA,W6,nb,no];cases cZ d.w<;>simp[blk]
  ·rw[g];simp only[wq,vE,UD,YA,W6,nb];cases ft d.o<;>cases cZ d.w<;>simp[blk]
 ·have g:=m (g10 (by simpa using L))
  refine⟨by(try simp only[aE]);omega,by(try simp only[aE]);omega,Ft (c _ _ ⟨b,?_⟩)⟩
  rw[g];simp only[wq,vE,PB,SH];simp[blk]
 ·have g:=m (Q (by simpa using B))
  refine⟨by(try simp only[aE]);omega,c _ _ ⟨b,?_⟩⟩;rw[g];simp only[wq,vE,PB];simp[blk]
 ·have g:=m (g12 (by simpa using I))
  refine⟨by(try simp only[aE]);omega,d.t,vc i 6,?_⟩;rw[show ac .u64 d.t=((d.t.toNat:Nat):Int)from by rw[dZ];omega]
  have xt:=KS (n:=d.t.toNat) (by omega);have yt:(aG (dL d.t.toNat)).size≤20:=by rw[cu];omega
  refine Ej d.t.toNat (by omega) ⟨by(try simp only[aE]);omega,by(try simp only[aE]);omega,Ft (c _ _ ⟨b,?_⟩)⟩
  rw[g];simp only[wq,vE,PB,aaF];simp[blk]
 ·have g:=m (g13 (by simpa using F))
  refine⟨by(try simp only[aE]);omega,sc,vc i 14,SP (s0:=f.2.1++([32]++d.b.data.toList)) sm (hcs.upd b fun _ h=>h.elim) (by simp only[aj,ay,bN,nI];omega) (fun h8 D=>c _ _ ⟨b.tr D,?_⟩) (by simp only[rc])⟩
  rw[g];simp only[wq,vE,UD,w99,Sr];cases ft d.b<;>cases yK d.cs<;>simp[blk]
 ·have g:=m (g15 (by simpa using v))
  refine⟨by(try simp only[aE]);omega,by(try simp only[aE]);omega,by(try simp only[aE]);omega,Ft (c _ _ ⟨b,?_⟩)⟩
  rw[g];simp only[wq,vE,UE,SH,Zx,p];cases cZ d.s<;>simp[blk]
 ·have g:=m (g16 (by simpa using N))
  refine⟨by(try simp only[aE]);omega,by(try simp only[aE]);omega,c _ _ ⟨b,?_⟩⟩
  rw[g];simp only[wq,vE,UE,SH,p];cases cZ d.s<;>simp[blk]
 ·have g:=m (g18 (by simpa using H))
  refine⟨by(try simp only[aE]);omega,c _ _ ⟨b,?_⟩⟩;rw[g];simp only[wq,vE,UE,p];cases cZ d.s<;>simp[blk]
 ·have g:=m (S (by simpa using E))
  refine⟨by(try simp only[aE]);omega,by(try simp only[aE]);omega,CondP.intro (fun nb=>c _ _ ⟨b,?_⟩) fun nb=>c _ _ ⟨b,?_⟩⟩
  ·rw[g];simp only[wq,vE,UD,UE,p,nb];cases cZ d.s<;>simp[blk]
  ·rw[g];simp only[wq,vE,UD,UE,nb];cases cZ d.s<;>simp[blk]
 ·have g:=m (g21 (by simpa using A))
  refine⟨by(try simp only[aE]);omega,by(try simp only[aE]);omega,Ft ⟨by(try simp only[aE]);omega,d.w,vc i 8,uA (c _ _ ⟨b,?_⟩)⟩⟩
  rw[g];simp only[wq,vE,PB,SH,W6,ews];cases cZ d.w<;>simp[blk]
 ·have g:=m (g22 (by simpa using z))
  refine⟨by(try simp only[aE]);omega,d.fr,vc i 10,pf (by omega) fun h8 D=>⟨by(try simp only[aE]);omega,by(try simp only[aE]);omega,Ft ?_⟩⟩
  have b8:=D.get0 i;have s42:(⟨#[32,42]⟩:ByteArray).size=2:=rfl;have s3:(⟨#[32,117,112]⟩:ByteArray).size=3:=rfl;have s5:(⟨#[32,100,111,119,110]⟩:ByteArray).size=5:=rfl;refine Join.intro (fun(t:ByteArray) h'=>Upd No h8 h'∧t=aG (f.2.1++blk [dL d.i.toNat,eJ d.fr,if d.op then[42]else eJ d.up])) (fun R C=>⟨d.op,vc b8 12,CondP.intro (fun eo=>⟨by(try simp only[aE]);omega,C _ _ ⟨Upd.refl _ _,?_⟩⟩) fun eo=>⟨d.up,vc b8 11,pf (by omega) fun h9 V=>⟨by omega,by(try simp only[aE]);omega,C _ _ ⟨V,?_⟩⟩⟩⟩) ?_
  ·rw[eo];simp only[rc];simp[blk]
  ·rw[eo];simp only[rc];simp[blk]
  ·rintro _ h9 ⟨V,rfl⟩
   have hl:(aG (f.2.1++blk [dL d.i.toNat,eJ d.fr,if d.op then[42]else eJ d.up])).size≤100000:=by
    rw[cu];cases d.op<;>simp[blk,eJ]<;>omega
   refine⟨d.back,vc (V.get0 b8) 9,CondP.intro (fun eb=>⟨by omega,c _ _ ⟨(b.tr D).tr V,?_⟩⟩) fun eb=>⟨by omega,c _ _ ⟨(b.tr D).tr V,?_⟩⟩⟩
   ·rw[g];simp only[wq,vE,PB,Zy,eb];simp[blk]
   ·rw[g];simp only[wq,vE,PB,Zy,eb];simp[blk]
 ·have g:=m (gz (by
   simp only[Bool.or_eq_false_iff,beq_eq_false_iff_ne]at e0 e1 e4 e5 e6 e8 L B I F v N H E A z
   omega))
  refine c _ _ ⟨b,?_⟩;rw[g];simp[vE,blk]
end Go.Proofs
