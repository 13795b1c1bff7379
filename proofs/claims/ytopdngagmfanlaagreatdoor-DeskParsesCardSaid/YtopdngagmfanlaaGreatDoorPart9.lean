/- A part of the proof that the named laws of this program answer true, whatever the input. -/
import Derived.Test.YtopdngagmfanlaaGreatDoorPart8
import Derived.Test.YtopdngagmfanlaaGreatDoorPart6
import Derived.Test.YtopdngagmfanlaaGreatDoorPart5
open Bool renaming and_eq_true→aJ,true_and→dj,false_and→il,false_or→lG,true_or→pQ
open ByteArray renaming ext→vO,data_extract→gk,size_append→aE
open Go.IntKind renaming wrap→ac,wrap_u64→dW
open Int renaming toNat_natCast→ak
open List renaming mem_cons_self→aN,mem_cons_of_mem→aI,length_append→ai,length_cons→ay,length_map→gw,cons_append→fw,mem_cons→ar,mem_singleton→aQ,not_mem_nil→bU,length_nil→bN,mem_append→bL,getElem?_eq_getElem→ax,find?_eq_none→jk,mem_of_getElem?→be,take_add_one→iw,take_append_drop→bQ,take_length→bG,getElem_mem→bV,flatMap_append→bW
open Nat renaming zero_le→bc,succ_mul→nn,mul_le_mul_right→ii,le_refl→au,le_trans→bv
namespace Go.Proofs
open Go Go.Lift Go.RowKit
theorem JL(c:UInt8):∀l:List (List UInt8),Lib.join l [c]=po c l
 | []=>rfl
 | [w]=>Lib.join_one w [c]
 |w::u::l=>by
  have a:=JL c (u::l);rw[Lib.join_cons]at a⊢;show w++([c]++u++Lib.joinTail [c] l)=w++c::po c (u::l)
  rw[←a];simp
theorem Nu{m:Nat}(c:UInt8):∀l:List (List UInt8),(∀x∈l,x.length≤m)→(po c l).length≤l.length*(m+1)
 | [],_=>bc _
 | [w],h=>by have:=h w (aN ..);show w.length≤_;simp;omega
 |w::u::l,h=>by
  have a:=Nu c (u::l) fun x hx=>h x (aI _ hx)
  have:=h w (aN ..);show(w++c::po c (u::l)).length≤(l.length+1+1)*(m+1)
  rw[nn,ai,ay];simp only[ay]at a;omega
theorem SQ{c:UInt8}{W:Nat→Prop}{h:ad}{s:SliceV}{ws:List (List UInt8)}(n:Sl BT 1 W h s ws)(d:∃b,s.a=some ⟨b,0,none⟩)(hc:s.len≤s.cap)(o:ws≠[])(z:ws.length≤1000000)(hm:∀x∈ws,x.length≤1000000){K:ByteArray→ad→Prop}(B:∀h',Upd No h h'→K (aG (po c ws)) h'):
  HC PG ER [.slice s.a s.len s.cap,.string ⟨#[c]⟩] [.c .str] K h:=by
 obtain⟨b,d⟩:=d;obtain⟨E,sl,m⟩:=s;simp only at d hc;subst d;have D:sl=ws.length:=n.len;subst D;refine HC.shelf Tryz.call47 fun w A=>?_
 subst A;have f:(ws.map aG).map (fun x:ByteArray=>x.data.toList)=ws:=by
  rw[List.map_map];conv=>rhs;rw[←List.map_id ws]
  refine List.map_congr_left fun x _=>by simp
 have p:Lib.join ((ws.map aG).map (fun x:ByteArray=>x.data.toList)) (⟨#[c]⟩:ByteArray).data.toList=po c ws:=by rw[f];exact JL c ws
 have q:=Nu c ws hm;have v:b<w.heap.size:=by
  cases ws with
  |nil=>exact absurd rfl o
  |cons x ws=>
   obtain⟨a,d,_,k⟩:=n.at0 (g:=fun w=>Value.string (aG w)) (i:=0) (x:=x) rfl
   cases d;have:=G6 k;rwa [zV]at this
 have:=Any.strings_Join Is SO b 0 m (ws.map aG) ⟨#[c]⟩ w (fun j x hx=>by
  rw[List.getElem?_map]at hx
  obtain⟨y,C,rfl⟩:=Option.map_eq_some_iff.1 hx
  obtain⟨a,d,_,k⟩:=n.at0 (g:=fun w=>Value.string (aG w)) C
  cases d
  rw[ce,Nat.mul_one]at k
  exact k) v (by rw[gw];omega) (by rw[gw];exact hc) (by
   rw[p]
   have:ws.length*(1000000+1)≤1000000*(1000000+1):=ii _ z
   omega)
 rw[gw,p]at this;exact this.mono fun e w' ⟨u,t⟩=>⟨xj t,aG (po c ws),u,B _ (wt t)⟩
theorem TQ(d:OpD)(p:UInt8)(l:List UInt8):fy d (p::l)=match BS p d,fy d l with|some a,some b=>some (a++b)|_,_=>none:=rfl
theorem Gd(d:OpD):∀a b:List UInt8,fy d (a++b)=match fy d a,fy d b with|some x,some y=>some (x++y)|_,_=>none
 | [],b=>by
  show fy d b=_
  cases fy d b<;>rfl
 |p::a,b=>by
  rw[fw,TQ,TQ,Gd d a b];cases BS p d<;>cases fy d a<;>cases fy d b<;>simp
theorem NextS.go{i:Nat}{h:ad}{s:ByteArray}{n:Nat}{b:UInt8}{Ke:Prop}{Ks:Nat→UInt8→ad→Prop}(a:h[i]? =some (.stringIter s n)) (e:s[n]? =some b) (c:b.toNat<128) (d:∀h2,Upd (· =i) h h2→h2[i]? =some (.stringIter s (n+1))→Ks n b h2):NextS ⟨i,0,none⟩ h Ke Ks:=
 ⟨rfl,s,n,a,.inr ⟨b,e,c,d _ (Upd.set _ _ rfl) (jo a)⟩⟩
theorem NextS.stop{i:Nat}{h:ad}{s:ByteArray}{n:Nat}{Ke:Prop}{Ks:Nat→UInt8→ad→Prop}(a:h[i]? =some (.stringIter s n)) (b:s.size≤n) (c:Ke):NextS ⟨i,0,none⟩ h Ke Ks:=⟨rfl,s,n,a,.inl ⟨b,c⟩⟩
theorem Qk{n:Nat}(h:n≤9223372036854775807):(dJ n).length≤20:=Kd (by omega)
theorem nR(x:ByteArray):(eE x).length≤2*x.size+1:=by
 unfold eE lI;split
 ·simp
 ·rw[wa,nr];omega
theorem zG(v:ByteArray)(is:Bool):(ip v is).length≤2*v.size+1:=by
 unfold ip;split
 ·exact nR v
 ·simp
theorem Ni{x:ByteArray}(h:fj x=true):x.data.toList.length≤32:=by
 unfold fj at h;simp only[aJ,decide_eq_true_eq]at h;rw[nr];omega
theorem NZ{N:Nat}:∀(l:List Ch) (ws:List (List UInt8)),(∀c∈l,c.1.size≤N∧c.2.1.size≤N∧c.2.2.1.size≤N)→ma l=some ws→∀x∈ws,x.length≤2*N+1
 | [],ws,_,h,x,hx=>by cases h;cases hx
 |c::l,ws,hc,h,x,hx=>by
  obtain⟨b,_,_,d,rfl⟩:=wq h;obtain⟨e,f,g⟩:=hc c (aN ..);simp only[ar]at hx;rcases hx with rfl|rfl|rfl|hx
  ·have:=nR c.1;omega
  ·have:=zG c.2.1 c.2.2.2.1;omega
  ·have:=zG c.2.2.1 c.2.2.2.2;omega
  ·exact NZ l b (fun c a=>hc c (aI _ a)) d x hx
structure BndD(N m:Nat)(d:OpD):Prop where
 key:d.key.size≤N
 v:d.v.size≤N
 fr:d.fr.size≤N
 up:d.up.size≤N
 ps:d.ps.length≤m∧∀p∈d.ps,p.1.size≤N∧p.2.size≤N
 cs:d.cs.length≤m∧∀c∈d.cs,c.1.size≤N∧c.2.1.size≤N∧c.2.2.1.size≤N
 num:Yz d
theorem Q1{N m:Nat}(j:15<N){d:OpD}(b:BndD N m d){p:UInt8}(f:p∈kp){l:List (List UInt8)}(h:BS p d=some l):l.length≤3*m+3∧∀x∈l,x.length≤2*N+1:=by
 have one:∀{y:List UInt8},y.length≤2*N+1→[y].length≤3*m+3∧∀x∈[y],x.length≤2*N+1:=fun o=>⟨by simp,fun x hx=>by rw[aQ.1 hx];exact o⟩
 have hx:∀{x:ByteArray},x.size≤N→(eE x).length≤2*N+1:=fun{x} h=>by have:=nR x;omega
 have g:∀{n:Nat},n≤9223372036854775807→(dJ n).length≤2*N+1:=fun h=>by have:=Qk h;omega
 obtain⟨s,t,u,q⟩:=b.num;simp only[ar,bU,or_false]at f;rcases f with rfl|rfl|rfl|rfl|rfl|rfl|rfl|rfl|rfl|rfl|rfl
 ·have h:(if fj d.b then some [d.b.data.toList]else none)=some l:=h
  split at h
  ·rename_i e;cases h;exact one (by have:=Ni e;omega)
  ·cases h
 ·have h:(if fj d.o then some [d.o.data.toList]else none)=some l:=h
  split at h
  ·rename_i e;cases h;exact one (by have:=Ni e;omega)
  ·cases h
 ·cases h;exact one (hx b.key)
 ·cases h;exact one (hx b.v)
 ·cases h;exact one (g (by omega))
 ·cases h;exact one (g (by omega))
 ·have h:(if cY d.s then some [dJ d.s.toNat]else none)=some l:=h
  split at h
  ·rename_i e;cases h;simp only[cY,aJ,decide_eq_true_eq]at e;exact one (g (by omega))
  ·cases h
 ·have h:(if cY d.w then some [dJ d.w.toNat]else none)=some l:=h
  split at h
  ·rename_i e;cases h;simp only[cY,aJ,decide_eq_true_eq]at e;exact one (g (by omega))
  ·cases h
 ·have h:some [eE d.fr,if d.op then[42]else eE d.up,if d.back then ig else FL]=some l:=h
  cases h;refine⟨by simp only[ay,bN];omega,fun x a=>?_⟩
  simp only[ar,bU,or_false]at a;rcases a with rfl|rfl|rfl
  ·exact hx b.fr
  ·split
   ·simp only[ay,bN];omega
   ·exact hx b.up
  ·split<;>simp only[ay,bN]<;>omega
 ·have h:some (mq d.ps)=some l:=h
  cases h;refine⟨by rw[Cd];have:=b.ps.1;omega,fun x a=>?_⟩
  unfold mq at a;rw[List.mem_flatMap]at a;obtain⟨p,f,c⟩:=a;obtain⟨k,i⟩:=b.ps.2 p f;simp only[ar,bU,or_false]at c;rcases c with rfl|rfl
  ·exact hx k
  ·exact hx i
 ·have h:ma d.cs=some l:=h
  exact⟨by rw[Hw _ _ h];have:=b.cs.1;omega,NZ _ _ b.cs.2 h⟩
theorem Gc{N m:Nat}(c:15<N){d:OpD}(b:BndD N m d):∀(pt:List UInt8) (l:List (List UInt8)),(∀q∈pt,q∈kp)→fy d pt=some l→l.length≤pt.length*(3*m+3)∧∀x∈l,x.length≤2*N+1
 | [],l,_,h=>by cases h;exact⟨bc _,fun x hx=>by cases hx⟩
 |p::pt,l,hk,h=>by
  unfold fy at h;split at h
  ·rename_i x y e1 e2
   cases h;obtain⟨i,f⟩:=Q1 c b (hk p (aN ..)) e1;obtain⟨j,g⟩:=Gc c b pt y (fun q e=>hk q (aI _ e)) e2
   refine⟨by rw[ai,ay,nn];omega,fun z a=>?_⟩
   rcases bL.1 a with a|a
   ·exact f z a
   ·exact g z a
  ·cases h
theorem SmallD.bnd{d:OpD}(s:SmallD d):BndD 20000 20000 d:=⟨s.key,s.v,s.fr,s.up,s.ps,s.cs,s.num⟩
theorem NG:∀f∈formsL,f.2.1.length≤8∧f.2.2.length≤3∧f.2.1≠[]:=by decide+kernel
theorem Lg{W:Nat→Prop}{h:ad}{s:SliceV}(w:Sl Iz 3 W h s formsL){o:xp}{b:Nat}(y:h[b]? =some (.cells (ia o).toArray aR (0,0))) {K:Int→ad→Prop} (B:∀h' (i:Nat) f,formsL[i]? =some f→f.1=o.1→Upd No h h'→K (i:Int) h') (n:(∀f∈formsL,f.1≠o.1)→∀h',Upd No h h'→K (-1) h'):
  HC PG eG [.slice s.a s.len s.cap,.func (.func vA) #[] #[.pointer (some ⟨b,0,none⟩)]] [.c (.int .i64)] K h:=by
 refine lM s _ ?_;unfold gF cU vW bP YQ;have E:s.len=26:=w.len;refine LoopP.ghost (fun(i:Nat) (t:Int) h'=>t=(i:Int)∧i≤26∧(∀f∈formsL.take i,f.1≠o.1)∧Upd No h h') (fun i=>26-i) 0 ⟨rfl,bc _,(fun f A=>by cases A),Upd.refl _ _⟩ ?_
 rintro I i t h' ⟨rfl,hi,v,k⟩ D;refine aF (fun d=>?_) fun p=>?_
 ·have d:i<formsL.length:=by have:(i:Int)<(s.len:Int):=d;show i<26;omega
  have j:i<26:=d;obtain⟨a,z,_,m⟩:=(w.upd k fun _ h=>h.elim).at (ax d)
  have x:=ax d;have u:=Eu d;generalize formsL[i]=f at m x u;refine⟨⟨by omega,by omega⟩,a,z,f.1,by rw[ak];exact m 0 _ rfl,aG f.2.1,by rw[ak];exact m 1 _ rfl,aG f.2.2,by rw[ak];exact m 2 _ rfl,HV.mk' ?_⟩
  refine IR (f.1,aG f.2.1,aG f.2.2) ⟨b,0,none⟩ ?_;unfold AP aj vW Y2;refine pe fun C b2 q=>⟨_,vc b2 0,_,vc (q.get0 (k.get0 y)) 0,CondP.intro (fun e=>?_) fun e=>?_⟩
  ·exact B C i f x (by simpa using e) (k.tr q)
  ·rw[cM j (by omega)]
   refine D (i+1) _ _ ⟨rfl,j,fun g c=>?_,k.tr q⟩ (by omega)
   rw[u]at c;rcases bL.1 c with c|c
   ·exact v g c
   ·rw[aQ.1 c];simpa using e
 ·have hi:i=26:=by have:¬(i:Int)<(s.len:Int):=p;omega
  subst hi;exact n v h' k
theorem NT{d:OpD}{sp sc:SliceV}{h:ad}(sm:SmallD d)(hps:Sl jz 2 No h sp d.ps)(hcs:Sl sg 5 No h sc d.cs)(l:Laid h){K:ByteArray→ad→Prop}(o:∀h',Upd No h h'→K (aG ((lP d).getD [])) h'):HC PG yS [ON (pY d sp sc)] [.c .str] K h:=by
 refine Ov (pY d sp sc) ?_;unfold Ff cU aj bJ ah aZ aL nv DR O0 vW bP TJ TY Fl;refine pe fun h1 b1 k1=>Cx fun h3 of k3=>?_
 have z1:=k1.size;have E:=k1.tr k3;refine Lg (of.sl (W:=No) fun _ _ _ h=>h) (k3.get0 b1) (fun T i f Q hfk O=>?_) fun U T O=>?_
 rotate_left
 ·refine aA.2 ?_
  have:lP d=none:=by
   unfold lP;rw[jk.2 fun f Q=>by simpa using U f Q]
  have o:=o T (E.tr O);rw[this]at o;exact o
 refine aF (fun e=>absurd e (by omega)) fun _=>Cx fun h7 of7 Y=>?_
 have hm:=be Q;have i26:i<26:=(List.getElem?_eq_some_iff.1 Q).1;have u:formsL.find? (fun f=>f.1==d.k)=some f:=Qb hm hfk
 obtain⟨a,ha,_,hv⟩:=(of7.sl (W:=No) fun _ _ _ h=>h).at Q
 have ha:a=⟨T.size,0,none⟩:=(Option.some.inj ha).symm;refine⟨⟨by omega,by show((i:Nat):Int)<((26:Nat):Int);omega⟩,a,by rw[ha],f.1,by rw[ak];exact hv 0 _ rfl,aG f.2.1,by rw[ak];exact hv 1 _ rfl,aG f.2.2,by rw[ak];exact hv 2 _ rfl,pe fun h12 b12 k12=>dd (c:= [.int .i64 0,.string ⟨#[]⟩,.string ⟨#[]⟩]) (vs:=Iz f) b12 rfl fun j X u13=>⟨_,vc X 1,pe fun k P C=>?_⟩⟩
 have m:Upd No h7 j:=k12.own u13 (au _);refine⟨aG f.2.2,vc (C.get0 X) 2,bi ?_⟩;have w:=Upd.push No k (.stringIter (aG f.2.2) 0);have H:=mo k (.stringIter (aG f.2.2) 0);generalize k.push (.stringIter (aG f.2.2) 0)=h17 at w H;have z17:=bB H;have kA:Upd No h h17:=((((E.tr O).tr Y).tr m).tr C).tr w;have kh:h.size≤j.size:=(((E.tr O).tr Y).tr m).size
 have z13:=bB P;obtain⟨hs1,hs2,_⟩:=NG f hm;have N:=(wc f hm).1;have o0:OwnS BT 1 cn (fun y=>j.size≤y∧y≠k.size) h17 ⟨some (aH j),1,1⟩ [f.2.1]:=BX (w.get0 P) ⟨au _,by omega⟩
 have bnd:=sm.bnd;refine LoopP.ghost (fun(g:Nat×List (List UInt8)) (t:SliceV) h'=>g.1≤f.2.2.length∧fy d (f.2.2.take g.1)=some g.2∧OwnS BT 1 cn (fun y=>j.size≤y∧y≠k.size) h' t (f.2.1::g.2)∧h'[k.size]? =some (.stringIter (aG f.2.2) g.1)∧Upd (fun y=>j.size≤y) h17 h') (fun g=>f.2.2.length-g.1) (0,[]) ⟨bc _,rfl,o0,H,Upd.refl _ _⟩ ?_
 rintro I ⟨n,ws⟩ t h' ⟨U,F,J,D,hu⟩ hI;simp only at U F J D;have kAu:Upd No h h':=kA.trans hu fun y v=>.inr (bv kh v)
 by_cases S:n<f.2.2.length
 ·obtain⟨p,hp⟩:∃p,f.2.2[n]? =some p:=⟨_,ax S⟩
  have A:=N p (be hp);have G:p.toNat<128:=by
   simp only[ar,bU,or_false]at A;rcases A with rfl|rfl|rfl|rfl|rfl|rfl|rfl|rfl|rfl|rfl|rfl<;>decide
  refine NextS.go D (by rw[NF];simpa using hp) G fun h2 u3 V=>?_
  have z13':j.size≤k.size:=C.size;have B:Upd (fun y=>j.size≤y) h17 h2:=hu.trans u3 fun y v=>.inl (by have v:y=k.size:=v;show j.size≤y;omega)
  have k2:Upd No h h2:=kA.trans B fun y v=>.inr (bv kh v)
  have b2:=B.get ((((((k3.tr O).tr Y).tr m).tr C).tr w).get0 b1) (show ¬j.size≤h.size by have:=bB b1;have:=((k3.tr O).tr Y).tr m;have:=this.size;omega)
  have ho2:=J.upd u3 fun y v e=>v.2 (by have e:y=k.size:=e;exact e)
  have e:f.2.2.take (n+1)=f.2.2.take n++ [p]:=by rw[iw,hp];rfl
  refine xW b2 (RM (d:=d) A sm (hps.upd k2 fun _ h=>h.elim) (hcs.upd k2 fun _ h=>h.elim) (l.upd0 k2) (fun Z s wp R o4 z=>?_) fun L Z s z=>?_)
  ·refine af.2 ⟨_,(o4.sl (W:=No) fun _ _ _ h=>h).srow,AppP.own (ys:=wp) (ho2.upd z fun _ _ h=>h) o4.len rfl (FO wp) rfl (by omega) ?_ ⟨by have:=B.size;have:=z.size;omega,by have:=bB (z.get0 V);omega⟩ fun s' T o5 u5=>?_⟩
   ·obtain⟨q1,_⟩:=Q1 (by omega) bnd A R
    obtain⟨q2,_⟩:=Gc (by omega) bnd _ _ (fun q hq=>N q (List.mem_of_mem_take hq)) F
    have:(f.2.2.take n).length*(3*20000+3)≤3*(3*20000+3):=ii _ (by rw[List.length_take];omega);simp only[ay];omega
   ·refine hI (n+1,ws++wp) s' T ⟨S,?_,by rw[←fw];exact o5,u5.get (z.get0 V) (fun h=>h.2 rfl),(B.trans z fun _ h=>h.elim).trans u5 fun y v=>.inl v.1⟩ (by simp only;omega)
    show fy d (f.2.2.take (n+1))=_
    rw[e,Gd,F];show(match some ws,fy d [p]with|some x,some y=>some (x++y)|_,_=>none)=_
    unfold fy;rw[R];simp[fy]
  ·refine aA.2 ?_
   have:lP d=none:=by
    unfold lP;rw[u];show(fy d f.2.2).map _=none
    have hd:f.2.2=f.2.2.take n++([p]++f.2.2.drop (n+1)):=by rw[←List.append_assoc,←e,bQ]
    rw[hd,Gd,F];show Option.map _ (match some ws,fy d (p::f.2.2.drop (n+1))with|some x,some y=>some (x++y)|_,_=>none)=none
    unfold fy;rw[L];rfl
   have o:=o Z (k2.tr z);rw[this]at o;exact o
 ·have U:n=f.2.2.length:=by omega
  rw[U,bG]at F;refine NextS.stop D (by rw[ci];omega) ?_;obtain⟨q1,q2⟩:=Gc (by omega) bnd _ _ N F;have:f.2.2.length*(3*20000+3)≤3*(3*20000+3):=ii _ hs2;refine SQ (J.sl (W:=No) fun _ _ _ h=>h) ?_ J.cap (List.cons_ne_nil _ _) (by simp only[ay];omega) (fun x hx=>?_) fun Z z=>?_
  ·rcases J.blk with h0|⟨b,_,hb,_⟩
   ·have:=J.cap;have:=J.len;simp only[ay]at this;omega
   ·exact⟨b,hb⟩
  ·rcases ar.1 hx with rfl|hx
   ·omega
   ·have:=q2 x hx;omega
  ·have ht:lP d=some (po 32 (f.2.1::ws)):=by
    unfold lP;rw[u];show(fy d f.2.2).map _=_
    rw[F];rfl
   have o:=o Z (kAu.tr z);rw[ht]at o;exact o
end Go.Proofs
namespace Go.Proofs
open Go Go.Lift
section
variable {h:ad} {n m:ByteArray} {id p:Int} {s:SliceV} {t:Tr}
end
theorem EE{n:ByteArray}(s:n.size≤1000000){h:ad}{K:Bool→ad→Prop}(d:K (fj n) h):HC PG uw [.string n] [.c .bool] K h:=by
 refine Oj n ?_;unfold E5;have g:n.data.toList.length=n.size:=Array.length_toList;refine LoopP.ghost (fun(i:Nat) (t:Int) h'=>t=(i:Int)∧h'=h∧i≤n.size∧∀b∈n.data.toList.take i,wr b=true) (fun i=>n.size-i) 0 ⟨rfl,rfl,bc _,by simp⟩ ?_
 rintro I i t h' ⟨rfl,rfl,hi,j⟩ q;refine aF (fun c=>?_) fun p=>?_
 ·have c:i<n.size:=by omega
  have a:i<n.data.toList.length:=by omega
  have m:n[(i:Int).toNat]? =some n.data.toList[i]:=by
   rw[ak,getElem?_pos n i c];rfl
  refine Join.intro (fun t o=>t=(!wr n.data.toList[i])∧o=h') (fun R k=>⟨_,by omega,m,aF (fun e=>k _ _ ⟨?_,rfl⟩) fun e=>⟨_,by omega,m,k _ _ ⟨?_,rfl⟩⟩⟩) ?_
  ·unfold wr;rw[decide_eq_false (by omega:¬33≤n.data.toList[i].toNat)];rfl
  ·unfold wr;rw[decide_eq_true (by omega:33≤n.data.toList[i].toNat),dj,←decide_not,decide_eq_decide];omega
  ·rintro _ o ⟨rfl,rfl⟩
   refine CondP.intro (fun e=>?_) fun e=>?_
   ·rw[show fj n=false from ?_]at d
    ·exact d
    ·unfold fj
     rw[show n.data.toList.all wr=false from List.all_eq_false.2 ⟨_,bV a,by simpa using e⟩,Bool.and_false]
   ·rw[cM (n:=n.size) c (by omega)]
    refine q (i+1) _ _ ⟨rfl,rfl,by omega,?_⟩ (by omega)
    rw[List.take_succ_eq_append_getElem a];intro b f;rcases bL.1 f with f|f
    ·exact j b f
    ·rw[aQ.1 f];simpa using e
 ·have:i=n.size:=by omega
  subst this;rw[←g,bG]at j;refine aF (fun e=>?_) fun e=>?_
  ·rw[show fj n=decide ((n.size:Int)<33)from by unfold fj;rw[List.all_eq_true.2 j,decide_eq_true (by omega:1≤n.size),dj,Bool.and_true,decide_eq_decide];omega]at d
   exact d
  ·rw[show fj n=false from by unfold fj;rw[decide_eq_false (by omega:¬1≤n.size)];rfl]at d
   exact d
end Go.Proofs
namespace Go.Proofs
open Go Go.Lift Go.RowKit
theorem Rt(x:ByteArray)(i j:Nat):x.extract i j=aG ((x.data.toList.drop i).take (j-i)):=by
 apply vO;rw[gk];apply Array.toList_inj.1;rw[Array.toList_extract]
theorem HF{M:Nat→Prop}{h:ad}{c:SliceV}{out:List (List UInt8)}{w:List UInt8}{x:ByteArray}(hx:x=aG w){K:SliceV→ad→Prop}(d:OwnS BT 1 cn M h c out)(hM:∀b,h.size≤b→M b)(i:out.length+1≤1000000)
  (g:∀s' h',OwnS BT 1 cn M h' s' (out++ [w])→Upd M h h'→K s' h'):
  At (hnew h [.string x] cn) fun a=>∃xs,SRow a (some (aH h)) (1*1) xs∧AppP (some [.string ⟨#[]⟩]) 1 16 cn c.a c.len c.cap 1 xs a K:=by
 subst hx;refine pe fun a b1 k1=>?_
 have e:=k1.size;have f:OwnS BT 1 cn (fun _=>True) a ⟨some (aH h),1,1⟩ [w]:=BX b1 trivial
 exact⟨_,(f.sl (W:=No) fun _ _ _ h=>h).srow,AppP.own (ys:= [w]) (d.upd k1 fun _ _ h=>h) rfl rfl rfl rfl (by omega) (by simp only[ay,bN];omega) (hM _ e) fun s' h' o u=>g s' h' o (k1.wide.tr u)⟩
theorem MV{x:ByteArray}(hx:x.size≤100000){h:ad}{K:SliceV→ad→Prop}(B:∀h' s,OwnS BT 1 cn (fun y=>h.size≤y) h' s (im 32 x.data.toList)→Upd No h h'→K s h'):HC PG yL [.string x] [.c .slice] K h:=by
 refine Og x ?_;unfold E2;have G:=nr x;refine LoopP.ghost (fun(g:Nat×Nat×List (List UInt8)) (t:SliceV×Int×Int) h'=>t.2.1=(g.1:Int)∧t.2.2=(g.2.1:Int)∧g.1≤g.2.1∧g.2.1≤x.size∧g.2.2.length≤g.1∧(32:UInt8)∉(x.data.toList.drop g.1).take (g.2.1-g.1)∧im 32 x.data.toList=g.2.2++im 32 (x.data.toList.drop g.1)∧OwnS BT 1 cn (fun y=>h.size≤y) h' t.1 g.2.2∧Upd No h h') (fun g=>x.size-g.2.1) (0,0,[]) ⟨rfl,rfl,au _,bc _,bc _,by simp,rfl,OwnS.nil ym,Upd.refl _ _⟩ ?_
 rintro I ⟨fr,i,out⟩ ⟨C,D,E⟩ h' ⟨e1,e2,o,hi,f,d,b,n,m⟩ z;simp only at e1 e2 o hi f d b n;subst e1 e2;have F:=m.size;refine aF (fun a=>Join.plain ?_) fun p=>?_
 ·have a:i<x.size:=by have:(i:Int)<(x.size:Int):=a;omega
  obtain⟨c,c1,A,_⟩:=Qn a;have hd:(x.data.toList.drop fr).take (i+1-fr)=(x.data.toList.drop fr).take (i-fr)++ [c]:=by
   rw[show i+1-fr=(i-fr)+1 by omega,iw,List.getElem?_drop,show fr+(i-fr)=i by omega,A];rfl
  refine⟨c,by simp only;omega,c1,CondP.intro (fun e=>Join.plain ?_) fun e=>?_⟩
  ·have e:c=32:=by
    have e:(c.toNat:Int)=32:=by simpa using e
    exact UInt8.toNat_inj.1 (by show c.toNat=32;omega)
   subst e;refine⟨⟨by simp only;omega,by simp only;omega⟩,⟨by simp only;omega,by simp only[ak];omega⟩,HF (by simp only[ak];exact Rt x fr i) n (fun y k=>by omega) (by omega) fun s' u v q=>?_⟩
   show I (s',ac .i64 ((i:Int)+1),ac .i64 ((i:Int)+1)) u
   rw[cM a (by omega)];have w:x.data.toList.drop fr=(x.data.toList.drop fr).take (i-fr)++32::x.data.toList.drop (i+1):=by
    conv=>lhs;rw[←bQ (i+1-fr) (x.data.toList.drop fr),hd,List.drop_drop,show fr+(i+1-fr)=i+1 by omega]
    simp
   refine z (i+1,i+1,out++ [(x.data.toList.drop fr).take (i-fr)]) _ _ ⟨rfl,rfl,au _,a,by simp only[ai,List.length_singleton];omega,by simp,?_,v,m.trans q fun y k=>.inr k⟩ (by simp only;omega)
   have j:=yZ (r:=x.data.toList.drop (i+1)) d;rw[←w]at j;rw[b,j];simp
  ·have e:c≠32:=fun e2=>by rw[e2]at e;exact absurd e (by decide)
   show I (C,(fr:Int),ac .i64 ((i:Int)+1)) h'
   rw[cM a (by omega)];refine z (fr,i+1,out) _ _ ⟨rfl,rfl,by simp only;omega,a,f,?_,b,n,m⟩ (by simp only;omega)
   show(32:UInt8)∉(x.data.toList.drop fr).take (i+1-fr)
   rw[hd];intro hm;rcases bL.1 hm with hm|hm
   ·exact d hm
   ·exact e (aQ.1 hm).symm
 ·have hi:i=x.size:=by have:¬(i:Int)<(x.size:Int):=p;omega
  have e:(x.data.toList.drop fr).take (i-fr)=x.data.toList.drop fr:=List.take_of_length_le (by rw[List.length_drop];omega);rw[e]at d;have ex:=Rt x fr x.size;rw[←hi,e,hi]at ex;refine⟨⟨by simp only;omega,by simp only;omega⟩,HF (by simp only[ak];exact ex) n (fun y k=>by omega) (by omega) fun s' u v q=>B u s' ?_ (m.trans q fun y k=>.inr k)⟩
  rw[b,wn d];exact v
theorem gK{w:List UInt8}(a:w.length≤1000000){h:ad}{K:ByteArray→ad→Prop}(b:∀h',Upd No h h'→K (dz w) h'):HC PG fU [.string (aG w)] [.c .str] K h:=by
 refine Tp (aG w) ?_;unfold Ko;refine MW (by rw[ci];exact a) fun h' k=>?_
 rw[show(aG w).data.toList=w from by simp]
 have:=b h' k;unfold dz at this;cases e:iP w with
 |none=>rw[e]at this;exact this
 |some s=>rw[e]at this;exact this
theorem i5{w:List UInt8}(b:w.length≤1000000){h:ad}{K:Int→ad→Prop}(a:K (fl w) h):HC PG ep [.string (aG w)] [.c (.int .u64)] K h:=by
 refine LO (aG w) ?_;unfold Dd;refine KV (by rw[ci];exact b) ?_;rw[show(aG w).data.toList=w from by simp]
 unfold fl at a;cases e:mr w with
 |none=>rw[e]at a;exact a
 |some s=>rw[e]at a;exact a
theorem uj{n:Int}{h:ad}{K:Bool→ad→Prop}(a:K (cY n) h):HC PG oO [.int .i64 n] [.c .bool] K h:=by
 refine Od n ?_;unfold EZ;refine aF (fun e=>?_) fun e=>?_
 ·rw[show decide (n<2147483648)=cY n from by unfold cY;rw[decide_eq_true (show 0≤n by omega),dj,decide_eq_decide];omega];exact a
 ·rw[show false=cY n from by unfold cY;rw[decide_eq_false (show ¬0≤n by omega),il]];exact a
theorem GJ{v:ByteArray}{is:Bool}(b:v.size≤20000){h:ad}{K:ByteArray→ad→Prop}(a:∀h',Upd No h h'→K (aG (ip v is)) h'):HC PG qm [.string v,.bool is] [.c .str] K h:=by
 refine Qy v is ?_;unfold HT;cases is with
 |false=>exact aA.2 (a h (Upd.refl _ _))
 |true=>exact af.2 (oM (by omega) a)
abbrev namesL:List (List UInt8):=formsL.map (·.2.1)
theorem GP{h:ad}{K:SliceV→ad→Prop}(a:∀h' s,Sl BT 1 (fun y=>y<h.size) h' s namesL→s.len=26→Upd No h h'→K s h'):HC PG ur [] [.c .slice] K h:=by
 refine Oe ?_;unfold E0 YO;have b1:=bF h (namesL.flatMap BT) cn;have k1:=Upd.hnew No h (namesL.flatMap BT) cn;refine bi ?_;show K ⟨some (aH h),26,26⟩ (hnew h (namesL.flatMap BT) cn)
 generalize hnew h (namesL.flatMap BT) cn=h1 at b1 k1;exact a h1 _ ⟨rfl,ym,fun _=>⟨_,rfl,fun e=>absurd e (Nat.lt_irrefl _),pj b1 fun i v b=>by rw[Nat.zero_add,List.getElem?_toArray];exact b⟩⟩ rfl k1
theorem NI:∀i:Fin 26,∃f,formsL[i.val]? =some f∧f.1=((i.val:Nat):Int)∧namesL[i.val]? =some f.2.1∧f∈formsL:=by decide+kernel
def fg(f:Int×List UInt8×List UInt8):Prop:=(f.1=0∨f.1=2∨f.1=7→f.2.2= [98,105])∧(f.1=1∨f.1=3→f.2.2= [98])∧(f.1=4→f.2.2= [98,107,118])∧(f.1=5→f.2.2= [98,107])∧(f.1=6→f.2.2= [98,112])∧(f.1=8→f.2.2= [98,111,119])∧(f.1=10→f.2.2= [105,107])∧(f.1=11∨f.1=14→f.2.2= [105])∧(f.1=12→f.2.2= [105,116])∧(f.1=13→f.2.2= [98,99])∧(f.1=15→f.2.2= [115,107,118])∧(f.1=16∨f.1=17→f.2.2= [115,107])∧(f.1=18∨f.1=20→f.2.2= [115])∧(f.1=19→f.2.2= [115,98])∧(f.1=21→f.2.2= [105,107,119])∧(f.1=22→f.2.2= [105,114])∧(¬(f.1=0∨f.1=2∨f.1=7∨f.1=1∨f.1=3∨f.1=4∨f.1=5∨f.1=6∨f.1=8∨f.1=10∨f.1=11∨f.1=14∨f.1=12∨f.1=13∨f.1=15∨f.1=16∨f.1=17∨f.1=18∨f.1=20∨f.1=19∨f.1=21∨f.1=22)→f.2.2= [])
theorem U8:∀f∈formsL,fg f:=by
 intro f a;simp only[formsL,ar,bU,or_false]at a;rcases a with rfl|rfl|rfl|rfl|rfl|rfl|rfl|rfl|rfl|rfl|rfl|rfl|rfl|rfl|rfl|rfl|rfl|rfl|rfl|rfl|rfl|rfl|rfl|rfl|rfl|rfl<;>(unfold fg;refine⟨?_,?_,?_,?_,?_,?_,?_,?_,?_,?_,?_,?_,?_,?_,?_,?_,?_⟩)<;>decide
theorem or2{v a b:Int}{h:ad}{P:Bool→ad→Prop}(c:P (v==a||v==b) h):CondP (v==a) (P (v==a) h) (P (v==b) h):=
 CondP.intro (fun e=>by rw[e]at c⊢;exact c) fun e=>by rw[e]at c;exact c
theorem or3{v a b c:Int}{h:ad}{P:Bool→ad→Prop}(d:P (v==a||(v==b||v==c)) h):CondP (v==a) (P (v==a) h) (CondP (v==b) (P (v==b) h) (P (v==c) h)):=
 CondP.intro (fun e=>by rw[e]at d⊢;exact d) fun e=>by rw[e,lG]at d;exact or2 d
theorem Nt{v a b:Int}{h:ad}{R:Bool→ad→Prop}(c:R (v==a||v==b) h):Join R (fun J=>CondP (v==a) (J (v==a) h) (J (v==b) h)):=
 Join.plain (or2 (P:=R) c)
theorem Zn{v a b c:Int}{h:ad}{R:Bool→ad→Prop}(d:R (v==a||(v==b||v==c)) h):Join R (fun J=>CondP (v==a) (J (v==a) h) (CondP (v==b) (J (v==b) h) (J (v==c) h))):=
 Join.plain (or3 (P:=R) d)
theorem Nw(c:UInt8)(w u:List UInt8)(l:List (List UInt8)):po c (w::u::l)=w++c::po c (u::l):=rfl
def blk(l:List (List UInt8)):List UInt8:=l.flatMap fun w=>32::w
theorem JM:∀(w:List UInt8) (l:List (List UInt8)),po 32 (w::l)=w++blk l
 |w,[]=>by simp[blk,po]
 |w,u::l=>by rw[Nw,JM u l];simp[blk]
theorem RF(a b:List (List UInt8)):blk (a++b)=blk a++blk b:=by unfold blk;rw[bW]
end Go.Proofs
namespace Go.Proofs
open Go Go.Lift Go.RowKit
theorem TU(d:OpD):BS 98 d=if fj d.b then some [d.b.data.toList]else none:=rfl
theorem XM(d:OpD):BS 111 d=if fj d.o then some [d.o.data.toList]else none:=rfl
theorem RO(d:OpD):BS 107 d=some [eE d.key]:=rfl
theorem YJ(d:OpD):BS 118 d=some [eE d.v]:=rfl
theorem OY(d:OpD):BS 105 d=some [dJ d.i.toNat]:=rfl
theorem ZN(d:OpD):BS 116 d=some [dJ d.t.toNat]:=rfl
theorem TV(d:OpD):BS 115 d=if cY d.s then some [dJ d.s.toNat]else none:=rfl
theorem Wg(d:OpD):BS 119 d=if cY d.w then some [dJ d.w.toNat]else none:=rfl
theorem YK(d:OpD):BS 114 d=some [eE d.fr,if d.op then[42]else eE d.up,if d.back then ig else FL]:=rfl
theorem ZO(d:OpD):BS 112 d=some (mq d.ps):=rfl
theorem w99(d:OpD):BS 99 d=ma d.cs:=rfl
theorem vl(d:OpD):fy d []=some []:=rfl
theorem vR(d:OpD)(p:UInt8)(l:List UInt8):fy d (p::l)=match BS p d,fy d l with|some a,some b=>some (a++b)|_,_=>none:=rfl
theorem ZW{d:OpD}{f:Int×List UInt8×List UInt8}(c:f∈formsL)(e:f.1=d.k){a:List UInt8}(b:f.2.2=a):lP d=(fy d a).map fun l=>f.2.1++blk l:=by
 unfold lP;rw[Qb c e];simp only[JM];rw[b]
section
variable {d:OpD} {sp sc:SliceV} {h:ad}
theorem RW(sm:SmallD d)(A:Sl jz 2 No h sp d.ps){s0:List UInt8}(y:s0.length≤100000){K:ByteArray→ad→Prop}(L:∀h',Upd No h h'→K (aG (s0++blk (mq d.ps))) h'){o:ByteArray}(es:o=aG s0):
  LoopP (fun(w:ByteArray×Int→ad→Prop) (e:ByteArray×Int) b=>CondP (decide (e.2<(sp.len:Int))) (
    (((0:Int)≤e.2∧e.2<((sp.len:Nat):Int))∧∃a58:Addr,sp.a=some a58∧
     ∃v59:ByteArray,aD b (adr (adr a58 (e.2.toNat*2)) 0)=some (.string v59)∧
     ∃v60:ByteArray,aD b (adr (adr a58 (e.2.toNat*2)) 1)=some (.string v60)∧
     At (hnew b [.string (⟨#[]⟩:ByteArray),.string (⟨#[]⟩:ByteArray)] kV) (fun m=>
      (sN m (some (aH b)) 0 [.string v59,.string v60]∧
       At (ib m (aH b) 0 [.string v59,.string v60]) (fun k=>
        ∃v63:ByteArray,aD k (adr (aH b) 0)=some (.string v63)∧
        ∃v64:ByteArray,aD k (adr (aH b) 1)=some (.string v64)∧
        HC PG i7 [.string v63] [.c .str] (fun(g:ByteArray) n=>
         (aD n (adr (aH b) 1)=some (.string v64)∧
          ((((⟨#[32]⟩:ByteArray).size+g.size:Nat):Int)≤9223372036854775807∧
           (((((⟨#[32]⟩:ByteArray)++g).size+(⟨#[32]⟩:ByteArray).size:Nat):Int)≤9223372036854775807∧
            HC PG i7 [.string v64] [.c .str] (fun(j:ByteArray) x=>
             ((((((⟨#[32]⟩:ByteArray)++g)++(⟨#[32]⟩:ByteArray)).size+j.size:Nat):Int)≤9223372036854775807∧
              (((e.1.size+((((⟨#[32]⟩:ByteArray)++g)++(⟨#[32]⟩:ByteArray))++j).size:Nat):Int)≤9223372036854775807∧
               Bd (e.1++((((⟨#[32]⟩:ByteArray)++g)++(⟨#[32]⟩:ByteArray))++j):ByteArray) (fun u=>
               w (u,ac .i64 (e.2+1)) x)))) n)))) k))))) (
    K e.1 b)) (o,0) h:=by
 subst es;have hl:=A.len;have hn:=sm.ps.1;refine LoopP.ghost (fun(i:Nat) (t:ByteArray×Int) h'=>t.2=(i:Int)∧i≤d.ps.length∧t.1=aG (s0++blk (mq (d.ps.take i)))∧(s0++blk (mq (d.ps.take i))).length≤100000+i*100000∧Upd No h h') (fun i=>d.ps.length-i) 0 ⟨rfl,bc _,by simp[mq,blk],by simpa[mq,blk]using y,Upd.refl _ _⟩ ?_
 rintro I i ⟨ts,Y⟩ h' ⟨e1,hi,e2,D,v⟩ U;simp only at e1 e2;subst e1 e2;refine aF (fun f=>?_) fun s=>?_
 ·have f:i<d.ps.length:=by have:(i:Int)<(sp.len:Int):=f;omega
  obtain⟨a,E,_,q⟩:=(A.upd v fun _ h=>h.elim).at (ax f)
  obtain⟨P,T⟩:=sm.ps.2 _ (bV f);have B:=Eu f;generalize d.ps[i]=p at q P T B;have H:=nR p.1;have O:=nR p.2;have J:(lI p.1.data.toList).length≤2*p.1.size+1:=H;have N:(lI p.2.data.toList).length≤2*p.2.size+1:=O;have Q:(⟨#[32]⟩:ByteArray).size=1:=rfl;have Z:(aG (lI p.1.data.toList)).size≤40001:=by rw[ci];omega
  have y2:(aG (lI p.2.data.toList)).size≤40001:=by rw[ci];omega
  have y0:(aG (s0++blk (mq (d.ps.take i)))).size≤100000+i*100000:=by rw[ci];exact D
  have X:i*100000≤20000*100000:=ii _ (by omega);refine⟨⟨by simp only;omega,by simp only;omega⟩,a,E,p.1,?_,p.2,?_,pe fun h2 b2 W=>dd (c:= [.string ⟨#[]⟩,.string ⟨#[]⟩]) (vs:=jz p) b2 rfl fun S b3 F=>⟨_,vc b3 0,_,vc b3 1,oM (by omega) fun h4 z=>⟨vc (z.get0 b3) 1,by omega,by rw[aE];omega,oM (by omega) fun R G=>⟨by simp only[aE];omega,by simp only[aE];omega,F6 ?_⟩⟩⟩⟩
  ·simp only[ak];exact q 0 _ rfl
  ·simp only[ak];exact q 1 _ rfl
  have V:Upd No h' S:=W.own F (au _);have C:s0++blk (mq (d.ps.take (i+1)))=(s0++blk (mq (d.ps.take i)))++((([32]++eE p.1)++ [32])++eE p.2):=by
   rw[B,M1,RF];simp[mq,blk]
  show I (_,ac .i64 ((i:Int)+1)) R
  rw[cM f (by omega)];refine U (i+1) _ _ ⟨rfl,f,?_,?_,((v.tr V).tr z).tr G⟩ (by omega)
  ·rw[C]
   simp only[qO]
  ·rw[C,ai]
   simp only[ai,ay,bN]at*;omega
 ·have hi:i=d.ps.length:=by have:¬(i:Int)<(sp.len:Int):=s;omega
  have:=L h' v;rw[hi,bG];exact this
def xZ(l:List Ch):List (List UInt8):=l.flatMap fun c=> [eE c.1,ip c.2.1 c.2.2.2.1,ip c.2.2.1 c.2.2.2.2]
def ya(l:List Ch):Bool:=l.all fun c=>iq c.2.1 c.2.2.2.1&&iq c.2.2.1 c.2.2.2.2
theorem RB:∀l:List Ch,ma l=if ya l then some (xZ l)else none
 | []=>rfl
 |c::l=>by
  unfold ma Xh;rw[RB l];show _=if(iq c.2.1 c.2.2.2.1&&iq c.2.2.1 c.2.2.2.2)&&ya l then some ([eE c.1,ip c.2.1 c.2.2.2.1,ip c.2.2.1 c.2.2.2.2]++xZ l)else none
  cases iq c.2.1 c.2.2.2.1<;>cases iq c.2.2.1 c.2.2.2.2<;>cases ya l<;>rfl
theorem VC(a b:List Ch):ya (a++b)=(ya a&&ya b):=by unfold ya;rw[List.all_append]
theorem VB(a b:List Ch):xZ (a++b)=xZ a++xZ b:=by unfold xZ;rw[bW]
theorem RX(sm:SmallD d)(hc:Sl sg 5 No h sc d.cs){s0:List UInt8}(T:s0.length≤100000){nb:Bool}{K:ByteArray×Bool→ad→Prop}(hk:∀h',Upd No h h'→K (aG (s0++blk (xZ d.cs)),nb&&ya d.cs) h'){J:ByteArray}(es:J=aG s0):
  LoopP (fun(R:ByteArray×Bool×Int→ad→Prop) (e:ByteArray×Bool×Int) b=>CondP (decide (e.2.2<(sc.len:Int))) (
    Join (fun(A:ByteArray×Bool) L=>R (A.1,A.2,ac .i64 (e.2.2+1)) L) (fun u=>
     (((0:Int)≤e.2.2∧e.2.2<((sc.len:Nat):Int))∧∃a91:Addr,sc.a=some a91∧
      ∃v92:ByteArray,aD b (adr (adr a91 (e.2.2.toNat*5)) 0)=some (.string v92)∧
      ∃v93:ByteArray,aD b (adr (adr a91 (e.2.2.toNat*5)) 1)=some (.string v93)∧
      ∃v94:ByteArray,aD b (adr (adr a91 (e.2.2.toNat*5)) 2)=some (.string v94)∧
      ∃v95:Bool,aD b (adr (adr a91 (e.2.2.toNat*5)) 3)=some (.bool v95)∧
      ∃v96:Bool,aD b (adr (adr a91 (e.2.2.toNat*5)) 4)=some (.bool v96)∧
      At (hnew b [.string (⟨#[]⟩:ByteArray),.string (⟨#[]⟩:ByteArray),.string (⟨#[]⟩:ByteArray),.bool false,.bool false] gU) (fun G=>
       (sN G (some (aH b)) 0 [.string v92,.string v93,.string v94,.bool v95,.bool v96]∧
        At (ib G (aH b) 0 [.string v92,.string v93,.string v94,.bool v95,.bool v96]) (fun v=>
         ∃v99:ByteArray,aD v (adr (aH b) 0)=some (.string v99)∧
         ∃v100:ByteArray,aD v (adr (aH b) 1)=some (.string v100)∧
         ∃v101:Bool,aD v (adr (aH b) 3)=some (.bool v101)∧
         ∃v102:ByteArray,aD v (adr (aH b) 2)=some (.string v102)∧
         ∃v103:Bool,aD v (adr (aH b) 4)=some (.bool v103)∧
         HC PG i7 [.string v99] [.c .str] (fun(m:ByteArray) n=>
         (aD n (adr (aH b) 4)=some (.bool v103)∧
         (aD n (adr (aH b) 2)=some (.string v102)∧
         (aD n (adr (aH b) 3)=some (.bool v101)∧
         (aD n (adr (aH b) 1)=some (.string v100)∧
         ((((⟨#[32]⟩:ByteArray).size+m.size:Nat):Int)≤9223372036854775807∧
         (((((⟨#[32]⟩:ByteArray)++m).size+(⟨#[32]⟩:ByteArray).size:Nat):Int)≤9223372036854775807∧
         HC PG qm [.string v100,.bool v101] [.c .str] (fun(y:ByteArray) w=>
         (aD w (adr (aH b) 4)=some (.bool v103)∧
         (aD w (adr (aH b) 2)=some (.string v102)∧
         ((((((⟨#[32]⟩:ByteArray)++m)++(⟨#[32]⟩:ByteArray)).size+y.size:Nat):Int)≤9223372036854775807∧
         (((((((⟨#[32]⟩:ByteArray)++m)++(⟨#[32]⟩:ByteArray))++y).size+(⟨#[32]⟩:ByteArray).size:Nat):Int)≤9223372036854775807∧
         Bd (((((⟨#[32]⟩:ByteArray)++m)++(⟨#[32]⟩:ByteArray))++y)++(⟨#[32]⟩:ByteArray):ByteArray) (fun j=>
         HC PG qm [.string v102,.bool v103] [.c .str] (fun(g:ByteArray) f=>
         (((j.size+g.size:Nat):Int)≤9223372036854775807∧
         (((e.1.size+(j++g).size:Nat):Int)≤9223372036854775807∧
         CondP e.2.1 (
         ∃v111:Bool,aD f (adr (aH b) 3)=some (.bool v111)∧
         CondP v111 (
         ∃v112:Bool,aD f (adr (aH b) 4)=some (.bool v112)∧
         CondP v112 (
         u (e.1++(j++g),true) f) (
         ∃v113:ByteArray,aD f (adr (aH b) 2)=some (.string v113)∧
         u (e.1++(j++g),v113.toList==(⟨#[]⟩:ByteArray).toList) f)) (
         ∃v114:ByteArray,aD f (adr (aH b) 1)=some (.string v114)∧
         CondP (v114.toList==(⟨#[]⟩:ByteArray).toList) (
         ∃v115:Bool,aD f (adr (aH b) 4)=some (.bool v115)∧
         CondP v115 (
         u (e.1++(j++g),true) f) (
         ∃v116:ByteArray,aD f (adr (aH b) 2)=some (.string v116)∧
         u (e.1++(j++g),v116.toList==(⟨#[]⟩:ByteArray).toList) f)) (
         u (e.1++(j++g),false) f))) (
         u (e.1++(j++g),false) f)))) w)))))) n))))))) v)))))) (
    K (e.1,e.2.1) b)) (J,nb,0) h:=by
 subst es;have hl:=hc.len;have hn:=sm.cs.1;refine LoopP.ghost (fun(i:Nat) (t:ByteArray×Bool×Int) h'=>t.2.2=(i:Int)∧i≤d.cs.length∧t.1=aG (s0++blk (xZ (d.cs.take i)))∧t.2.1=(nb&&ya (d.cs.take i))∧(s0++blk (xZ (d.cs.take i))).length≤100000+i*200000∧Upd No h h') (fun i=>d.cs.length-i) 0 ⟨rfl,bc _,by simp[xZ,blk],by simp[ya],by simpa[xZ,blk]using T,Upd.refl _ _⟩ ?_
 rintro I i ⟨ts,tb,ti⟩ h' ⟨e1,hi,e2,N,hb,P⟩ hI;simp only at e1 e2 N;subst e1 e2 N;refine aF (fun p=>Join.plain ?_) fun O=>?_
 ·have p:i<d.cs.length:=by have:(i:Int)<(sc.len:Int):=p;omega
  obtain⟨a,ha,_,D⟩:=(hc.upd P fun _ h=>h.elim).at (ax p)
  obtain⟨q1,q2,W⟩:=sm.cs.2 _ (bV p);have Q:=Eu p;generalize d.cs[i]=c at D q1 q2 W Q;have x1:=nR c.1;have x1':(lI c.1.data.toList).length≤2*c.1.size+1:=x1;have x2:=zG c.2.1 c.2.2.2.1;have x3:=zG c.2.2.1 c.2.2.2.2;have s32:(⟨#[32]⟩:ByteArray).size=1:=rfl;have y1:(aG (lI c.1.data.toList)).size≤40001:=by rw[ci];omega
  have y2:(aG (ip c.2.1 c.2.2.2.1)).size≤40001:=by rw[ci];omega
  have y3:(aG (ip c.2.2.1 c.2.2.2.2)).size≤40001:=by rw[ci];omega
  have y0:(aG (s0++blk (xZ (d.cs.take i)))).size≤100000+i*200000:=by rw[ci];exact hb
  have yi:i*200000≤20000*200000:=ii _ (by omega);refine⟨⟨by simp only;omega,by simp only;omega⟩,a,ha,c.1,?_,c.2.1,?_,c.2.2.1,?_,c.2.2.2.1,?_,c.2.2.2.2,?_,pe fun Z b2 k2=>dd (c:= [.string ⟨#[]⟩,.string ⟨#[]⟩,.string ⟨#[]⟩,.bool false,.bool false]) (vs:=sg c) b2 rfl fun h3 b3 u3=>⟨_,vc b3 0,_,vc b3 1,_,vc b3 3,_,vc b3 2,_,vc b3 4,oM (by omega) fun h4 V=>?_⟩⟩
  ·simp only[ak];exact D 0 _ rfl
  ·simp only[ak];exact D 1 _ rfl
  ·simp only[ak];exact D 2 _ rfl
  ·simp only[ak];exact D 3 _ rfl
  ·simp only[ak];exact D 4 _ rfl
  have H:=V.get0 b3;refine⟨vc H 4,vc H 2,vc H 3,vc H 1,by omega,by rw[aE];omega,GJ q2 fun h5 X=>?_⟩
  have S:=X.get0 H;refine⟨vc S 4,vc S 2,by simp only[aE];omega,by simp only[aE];omega,F6 (GJ W fun h6 Y=>⟨by simp only[aE];omega,by simp only[aE];omega,?_⟩)⟩
  have F:=Y.get0 S;have k3:Upd No h' h3:=k2.own u3 (au _);have U:=(((P.tr k3).tr V).tr X).tr Y;have N:s0++blk (xZ (d.cs.take (i+1)))=(s0++blk (xZ (d.cs.take i)))++((((([32]++eE c.1)++ [32])++ip c.2.1 c.2.2.2.1)++ [32])++ip c.2.2.1 c.2.2.2.2):=by
   rw[Q,VB,RF];simp[xZ,blk]
  have e4:ya (d.cs.take (i+1))=(ya (d.cs.take i)&&(iq c.2.1 c.2.2.2.1&&iq c.2.2.1 c.2.2.2.2)):=by
   rw[Q,VC];simp[ya]
  have go:∀(s:ByteArray) (o:Bool),s=aG (s0++blk (xZ (d.cs.take (i+1))))→o=(nb&&ya (d.cs.take (i+1)))→I (s,o,ac .i64 ((i:Int)+1)) h6:=fun s o es eo=>by
   rw[cM p (by omega)];refine hI (i+1) _ _ ⟨rfl,p,es,eo,?_,U⟩ (by omega);rw[N,ai];simp only[ai,ay,bN]at*;omega
  have es:aG (s0++blk (xZ (d.cs.take i)))++((((((⟨#[32]⟩:ByteArray)++aG (lI c.1.data.toList))++(⟨#[32]⟩:ByteArray))++aG (ip c.2.1 c.2.2.2.1))++(⟨#[32]⟩:ByteArray))++aG (ip c.2.2.1 c.2.2.2.2))=aG (s0++blk (xZ (d.cs.take (i+1)))):=by
   rw[N];simp only[qO]
  have z:∀o:Bool,(nb&&ya (d.cs.take i))=true→o=(iq c.2.1 c.2.2.2.1&&iq c.2.2.1 c.2.2.2.2)→o=(nb&&ya (d.cs.take (i+1))):=fun o h1 Z=>by
   rw[e4,←Bool.and_assoc,h1,dj];exact Z
  have q:∀x:ByteArray,(x.toList==(⟨#[]⟩:ByteArray).toList)=decide (x.data.toList= []):=fun x=>Cj
  refine CondP.intro (fun k=>⟨c.2.2.2.1,vc F 3,CondP.intro (fun E=>⟨c.2.2.2.2,vc F 4,CondP.intro (fun B=>go _ _ es (z _ k ?_)) fun B=>⟨c.2.2.1,vc F 2,go _ _ es (z _ k ?_)⟩⟩) fun E=>⟨c.2.1,vc F 1,CondP.intro (fun C=>⟨c.2.2.2.2,vc F 4,CondP.intro (fun B=>go _ _ es (z _ k ?_)) fun B=>⟨c.2.2.1,vc F 2,go _ _ es (z _ k ?_)⟩⟩) fun C=>go _ _ es (z _ k ?_)⟩⟩) fun k=>go _ _ es ?_
  ·simp only[iq,E,B,pQ,dj]
  ·rw[q];simp only[iq,E,B,pQ,lG,dj]
  ·rw[q]at C;simp only[iq,E,B,C,pQ,lG,dj]
  ·rw[q]at C⊢;simp only[iq,E,B,C,lG,dj]
  ·rw[q]at C;simp only[iq,E,C,lG,il]
  ·have k:(nb&&ya (d.cs.take i))=false:=k
   rw[e4,←Bool.and_assoc,k,il]
 ·have hi:i=d.cs.length:=by have:¬(i:Int)<(sc.len:Int):=O;omega
  have:=hk h' P;rw[hi,bG];exact this
end
end Go.Proofs
namespace Go.Proofs
open Go Go.Lift Go.RowKit
set_option maxHeartbeats 4000000 in
theorem Py{d:OpD}{sp sc:SliceV}{h:ad}(sm:SmallD d)(hps:Sl jz 2 No h sp d.ps)(hcs:Sl sg 5 No h sc d.cs){K:ByteArray→ad→Prop}(p:∀h',Upd No h h'→K (aG ((lP d).getD [])) h'):HC PG Bg [ON (pY d sp sc)] [.c .str] K h:=by
 refine Qz (pY d sp sc) ?_;unfold HU bf cU aj bJ ah aZ aL nv DR bP cJ iA ez uf nO Mg;refine pe fun h1 b1 k1=>GP fun h3 ns hs hns k3=>?_
 have b3:=k3.get0 b1;have k13:=k1.tr k3;refine Join.intro (fun(t:Bool) h'=>h'=h3∧t=decide (d.k<0∨26≤d.k)) (fun R F=>⟨d.k,vc b3 0,aF (fun e=>F _ _ ⟨rfl,(decide_eq_true (.inl e)).symm⟩) fun e=>⟨d.k,vc b3 0,F _ _ ⟨rfl,?_⟩⟩⟩) ?_
 ·rw[hns,decide_eq_decide];omega
 rintro t h' ⟨rfl,rfl⟩;refine aF (fun e=>?_) fun e=>?_
 ·have:lP d=none:=by
   unfold lP;rw[jk.2 fun f hf=>?_]
   have h26:∀f∈formsL,0≤f.1∧f.1<26:=by decide+kernel
   have:=h26 f hf;simp only[beq_iff_eq];omega
  have p:=p h' k13;rw[this]at p;exact p
 obtain⟨k,hkk⟩:∃k:Nat,d.k=(k:Int):=⟨d.k.toNat,by omega⟩
 have hk26:k<26:=by omega
 obtain⟨f,hfi,hfk,X,C⟩:=NI ⟨k,hk26⟩;simp only at hfi hfk X;have hfd:f.1=d.k:=by rw[hfk,hkk]
 obtain⟨g0,g1,g4,g5,g6,g8,Z,g11,g12,S,g15,U,T,g19,V,Y,gz⟩:=U8 f C;rw[hfd]at g0 g1 g4 g5 g6 g8 Z g11 g12 S g15 U T g19 V Y gz;obtain⟨a,ha,_,hat⟩:=hs.at0 (g:=fun w=>Value.string (aG w)) X
 have hf8:=(NG f C).1;obtain⟨n1,n2,n3,n4⟩:=sm.num;have sb':=sm.b;have so':=sm.o;have sk':=sm.key;have sv':=sm.v;have sfr':=sm.fr;have sup':=sm.up;have s32:(⟨#[32]⟩:ByteArray).size=1:=rfl;have yb:(aG d.b.data.toList).size≤20000:=by rw[ci,nr];omega
 refine⟨d.k,vc b3 0,⟨by omega,by omega⟩,a,ha,aG f.2.1,by rw[hkk,ak];exact hat,aG d.b.data.toList,vc b3 1,by omega,d.i,vc b3 5,?_⟩
 rw[show ac .u64 d.i=((d.i.toNat:Nat):Int)from by rw[dW];omega]
 have xi:=Kd (n:=d.i.toNat) (by omega);have xk:(lI d.key.data.toList).length≤2*d.key.size+1:=nR d.key;have xv:(lI d.v.data.toList).length≤2*d.v.size+1:=nR d.v;have xfr:(lI d.fr.data.toList).length≤2*d.fr.size+1:=nR d.fr;have xup:(lI d.up.data.toList).length≤2*d.up.size+1:=nR d.up;have yo:(aG d.o.data.toList).size≤20000:=by rw[ci,nr];omega
 have ynm:(aG f.2.1).size≤8:=by rw[ci];omega
 have yi:(aG (dJ d.i.toNat)).size≤20:=by rw[ci];omega
 have yk:(aG (lI d.key.data.toList)).size≤40001:=by rw[ci];omega
 have yv:(aG (lI d.v.data.toList)).size≤40001:=by rw[ci];omega
 have yfr:(aG (lI d.fr.data.toList)).size≤40001:=by rw[ci];omega
 have yup:(aG (lI d.up.data.toList)).size≤40001:=by rw[ci];omega
 refine DP d.i.toNat (by omega) ⟨by omega,d.key,vc b3 3,d.v,vc b3 4,oM (by omega) fun h5 k5=>⟨vc (k5.get0 b3) 4,by omega,oM (by omega) fun O k6=>⟨by omega,?_⟩⟩⟩
 have i:=k6.get0 (k5.get0 b3);have b:=(k13.tr k5).tr k6;refine⟨d.b,vc i 1,d.s,vc i 7,EE (by omega) ⟨vc i 7,uj ?_⟩⟩;have num:∀{n:Int} {j:Nat} {P:ByteArray→ad→Prop},aD O (adr ⟨h.size,0,none⟩ j)=some (.int .i64 n)→(∀w,w=32::(if cY n then dJ n.toNat else[])→w.length≤21→P (aG w) O)→Join P (fun J28=>CondP (cY n) (∃v29:Int,aD O (adr (aH h) j)=some (.int .i64 v29)∧HC PG oQ [.int .u64 (ac .u64 v29)] [.c .str] (fun(e30:ByteArray) h31=>((((⟨#[32]⟩:ByteArray).size+e30.size:Nat):Int)≤9223372036854775807∧J28 ((⟨#[32]⟩:ByteArray)++e30) h31)) O) (J28 (⟨#[32]⟩:ByteArray) O)):=by
  intro n j P hc L;refine Join.plain (CondP.intro (fun e=>?_) fun e=>?_)
  ·have e2:=e
   simp only[cY,aJ,decide_eq_true_eq]at e2;rw[e]at L;have L:=L _ rfl;rw[if_pos rfl]at L;refine⟨n,hc,?_⟩;rw[show ac .u64 n=((n.toNat:Nat):Int)from by rw[dW];omega]
   have x:=Kd (n:=n.toNat) (by omega);have y:(aG (dJ n.toNat)).size≤20:=by rw[ci];omega
   refine DP n.toNat (by omega) ⟨by omega,?_⟩;rw[show(⟨#[32]⟩:ByteArray)++aG (dJ n.toNat)=aG (32::dJ n.toNat)from qO [32] _]
   exact L (by simp only[ay];omega)
  ·rw[e]at L
   exact L _ rfl (by simp)
 refine num (vc i 7) fun ns1 o hns1=>?_
 have ys:(aG ns1).size≤21:=by rw[ci];exact hns1
 have q:= @num d.w 8;refine Join.intro (fun(t:ByteArray) h'=>h'=O∧∃w,t=aG w∧w=32::(if cY d.w then dJ d.w.toNat else[])∧w.length≤21) (fun R F=>⟨d.w,vc i 8,uj ?_⟩) ?_
 ·have:=q (P:=fun t h'=>R t h') (vc i 8) fun w e1 e2=>F _ _ ⟨rfl,w,rfl,e1,e2⟩
  exact this.run
 rintro _ h7 ⟨rfl,ws1,rfl,ews,Q⟩;have yw:(aG ws1).size≤21:=by rw[ci];exact Q
 refine Join.intro (fun(t:ByteArray×Bool) h'=>Upd No h h'∧(if t.2 then t.1.data.toList else[])=(lP d).getD []) (fun J c=>?_) ?_
 rotate_left
 ·rintro⟨t1,t2⟩ h' ⟨kk,et⟩
  have p:=p h' kk;rw[←et]at p;cases t2 with
  |true=>exact af.2 p
  |false=>exact aA.2 p
 clear num q;have m:∀{pt:List UInt8},f.2.2=pt→lP d=(fy d pt).map fun l=>f.2.1++blk l:=fun hp=>ZW C hfd hp
 refine⟨d.k,vc i 0,Zn ((CondP.intro (fun e0=>?_) fun e0=>Nt ((CondP.intro (fun e1=>?_) fun e1=>CondP.intro (fun e4=>?_) fun e4=>CondP.intro (fun e5=>?_) fun e5=>CondP.intro (fun e6=>?_) fun e6=>CondP.intro (fun e8=>?_) fun e8=>CondP.intro (fun N=>?_) fun N=>Nt ((CondP.intro (fun A=>?_) fun A=>CondP.intro (fun v=>?_) fun v=>CondP.intro (fun B=>?_) fun B=>CondP.intro (fun G=>?_) fun G=>Nt ((CondP.intro (fun u=>?_) fun u=>Nt ((CondP.intro (fun I=>?_) fun I=>CondP.intro (fun H=>?_) fun H=>CondP.intro (fun z=>?_) fun z=>CondP.intro (fun E=>?_) fun E=>?_))))))))))⟩
 ·have g:=m (g0 (by simpa using e0))
  refine⟨by(try simp only[aE]);omega,by(try simp only[aE]);omega,F6 (c _ _ ⟨b,?_⟩)⟩
  rw[g];simp only[vR,vl,TU,OY];cases fj d.b<;>simp[blk]
 ·have g:=m (g1 (by simpa using e1))
  refine⟨by(try simp only[aE]);omega,c _ _ ⟨b,?_⟩⟩;rw[g];simp only[vR,vl,TU];cases fj d.b<;>simp[blk]
 ·have g:=m (g4 (by simpa using e4))
  refine⟨by(try simp only[aE]);omega,by(try simp only[aE]);omega,F6 ⟨by(try simp only[aE]);omega,c _ _ ⟨b,?_⟩⟩⟩
  rw[g];simp only[vR,vl,TU,RO,YJ];cases fj d.b<;>simp[blk]
 ·have g:=m (g5 (by simpa using e5))
  refine⟨by(try simp only[aE]);omega,by(try simp only[aE]);omega,F6 (c _ _ ⟨b,?_⟩)⟩
  rw[g];simp only[vR,vl,TU,RO];cases fj d.b<;>simp[blk]
 ·have g:=m (g6 (by simpa using e6))
  refine⟨by(try simp only[aE]);omega,sp,vc i 13,RW (K:=fun s h9=>J (s,_) h9) (s0:=f.2.1++([32]++d.b.data.toList)) sm (hps.upd b fun _ h=>h.elim) (by simp only[ai,ay,bN,nr];omega) (fun h8 D=>c _ _ ⟨b.tr D,?_⟩) (by simp only[qO])⟩
  rw[g];simp only[vR,vl,TU,ZO];cases fj d.b<;>simp[blk]
 ·have g:=m (g8 (by simpa using e8))
  refine⟨by(try simp only[aE]);omega,by(try simp only[aE]);omega,aG d.o.data.toList,vc i 2,by(try simp only[aE]);omega,F6 ⟨by(try simp only[aE]);omega,CondP.intro (fun nb=>⟨d.o,vc i 2,EE (by omega) ⟨vc i 2,CondP.intro (fun no=>⟨d.w,vc i 8,uj ⟨vc i 2,c _ _ ⟨b,?_⟩⟩⟩) fun no=>c _ _ ⟨b,?_⟩⟩⟩) fun nb=>c _ _ ⟨b,?_⟩⟩⟩
  ·rw[g];simp only[vR,vl,TU,XM,Wg,ews,nb,no];cases cY d.w<;>simp[blk]
  ·rw[g];simp only[vR,vl,TU,XM,Wg,nb,no];cases cY d.w<;>simp[blk]
  ·rw[g];simp only[vR,vl,TU,XM,Wg,nb];cases fj d.o<;>cases cY d.w<;>simp[blk]
 ·have g:=m (Z (by simpa using N))
  refine⟨by(try simp only[aE]);omega,by(try simp only[aE]);omega,F6 (c _ _ ⟨b,?_⟩)⟩
  rw[g];simp only[vR,vl,OY,RO];simp[blk]
 ·have g:=m (g11 (by simpa using A))
  refine⟨by(try simp only[aE]);omega,c _ _ ⟨b,?_⟩⟩;rw[g];simp only[vR,vl,OY];simp[blk]
 ·have g:=m (g12 (by simpa using v))
  refine⟨by(try simp only[aE]);omega,d.t,vc i 6,?_⟩;rw[show ac .u64 d.t=((d.t.toNat:Nat):Int)from by rw[dW];omega]
  have xt:=Kd (n:=d.t.toNat) (by omega);have yt:(aG (dJ d.t.toNat)).size≤20:=by rw[ci];omega
  refine DP d.t.toNat (by omega) ⟨by(try simp only[aE]);omega,by(try simp only[aE]);omega,F6 (c _ _ ⟨b,?_⟩)⟩
  rw[g];simp only[vR,vl,OY,ZN];simp[blk]
 ·have g:=m (S (by simpa using B))
  refine⟨by(try simp only[aE]);omega,sc,vc i 14,RX (s0:=f.2.1++([32]++d.b.data.toList)) sm (hcs.upd b fun _ h=>h.elim) (by simp only[ai,ay,bN,nr];omega) (fun h8 D=>c _ _ ⟨b.tr D,?_⟩) (by simp only[qO])⟩
  rw[g];simp only[vR,vl,TU,w99,RB];cases fj d.b<;>cases ya d.cs<;>simp[blk]
 ·have g:=m (g15 (by simpa using G))
  refine⟨by(try simp only[aE]);omega,by(try simp only[aE]);omega,by(try simp only[aE]);omega,F6 (c _ _ ⟨b,?_⟩)⟩
  rw[g];simp only[vR,vl,TV,RO,YJ,o];cases cY d.s<;>simp[blk]
 ·have g:=m (U (by simpa using u))
  refine⟨by(try simp only[aE]);omega,by(try simp only[aE]);omega,c _ _ ⟨b,?_⟩⟩
  rw[g];simp only[vR,vl,TV,RO,o];cases cY d.s<;>simp[blk]
 ·have g:=m (T (by simpa using I))
  refine⟨by(try simp only[aE]);omega,c _ _ ⟨b,?_⟩⟩;rw[g];simp only[vR,vl,TV,o];cases cY d.s<;>simp[blk]
 ·have g:=m (g19 (by simpa using H))
  refine⟨by(try simp only[aE]);omega,by(try simp only[aE]);omega,CondP.intro (fun nb=>c _ _ ⟨b,?_⟩) fun nb=>c _ _ ⟨b,?_⟩⟩
  ·rw[g];simp only[vR,vl,TU,TV,o,nb];cases cY d.s<;>simp[blk]
  ·rw[g];simp only[vR,vl,TU,TV,nb];cases cY d.s<;>simp[blk]
 ·have g:=m (V (by simpa using z))
  refine⟨by(try simp only[aE]);omega,by(try simp only[aE]);omega,F6 ⟨by(try simp only[aE]);omega,d.w,vc i 8,uj (c _ _ ⟨b,?_⟩)⟩⟩
  rw[g];simp only[vR,vl,OY,RO,Wg,ews];cases cY d.w<;>simp[blk]
 ·have g:=m (Y (by simpa using E))
  refine⟨by(try simp only[aE]);omega,d.fr,vc i 10,oM (by omega) fun h8 D=>⟨by(try simp only[aE]);omega,by(try simp only[aE]);omega,F6 ?_⟩⟩
  have b8:=D.get0 i;have s42:(⟨#[32,42]⟩:ByteArray).size=2:=rfl;have s3:(⟨#[32,117,112]⟩:ByteArray).size=3:=rfl;have s5:(⟨#[32,100,111,119,110]⟩:ByteArray).size=5:=rfl;refine Join.intro (fun(t:ByteArray) h'=>Upd No h8 h'∧t=aG (f.2.1++blk [dJ d.i.toNat,eE d.fr,if d.op then[42]else eE d.up])) (fun R F=>⟨d.op,vc b8 12,CondP.intro (fun eo=>⟨by(try simp only[aE]);omega,F _ _ ⟨Upd.refl _ _,?_⟩⟩) fun eo=>⟨d.up,vc b8 11,oM (by omega) fun h9 W=>⟨by omega,by(try simp only[aE]);omega,F _ _ ⟨W,?_⟩⟩⟩⟩) ?_
  ·rw[eo];simp only[qO];simp[blk]
  ·rw[eo];simp only[qO];simp[blk]
  ·rintro _ h9 ⟨W,rfl⟩
   have hl:(aG (f.2.1++blk [dJ d.i.toNat,eE d.fr,if d.op then[42]else eE d.up])).size≤100000:=by
    rw[ci];cases d.op<;>simp[blk,eE]<;>omega
   refine⟨d.back,vc (W.get0 b8) 9,CondP.intro (fun eb=>⟨by omega,c _ _ ⟨(b.tr D).tr W,?_⟩⟩) fun eb=>⟨by omega,c _ _ ⟨(b.tr D).tr W,?_⟩⟩⟩
   ·rw[g];simp only[vR,vl,OY,YK,eb];simp[blk]
   ·rw[g];simp only[vR,vl,OY,YK,eb];simp[blk]
 ·have g:=m (gz (by
   simp only[Bool.or_eq_false_iff,beq_eq_false_iff_ne]at e0 e1 e4 e5 e6 e8 N A v B G u I H z E
   omega))
  refine c _ _ ⟨b,?_⟩;rw[g];simp[vl,blk]
end Go.Proofs
