/- A part of the proof that the named laws of this program answer true, whatever the input. -/
import Derived.Test.YtncppacbfagpgaaGreatDoorTreeF0
import Derived.Test.YtncppacbfagpgaaGreatDoorTreeF1
import Derived.Test.YtncppacbfagpgaaGreatDoorTreeF2
import Derived.Test.YtncppacbfagpgaaGreatDoorLaw0
import Derived.Test.YtncppacbfagpgaaGreatDoorLift3
import Derived.Lib.Overlaps
open BitVec renaming ofInt→aq
open ByteArray renaming size_extract→fq
open Int renaming toNat_natCast→aJ
open List renaming length_append→ae,filter_append→gL,mem_filter→d8,append_nil→aZ,nil_append→dN,mem_cons_self→av,pairwise_append→cf,append_assoc→ar,mem_singleton→ax,pairwise_cons→aW,mem_cons→aC,mem_append→bL,length_eq_zero_iff→aG,mem_cons_of_mem→aN,append_eq_nil_iff→iC,append_cancel_left→eh,length→dW,getElem_of_mem→bM,length_take→aK,length_drop→aM,take_append_drop→aH,length_set→ip,getElem_mem→aU,mem_of_getElem→mO,pairwise_iff_getElem→ci,take_succ_cons→dd,drop_succ_cons→iz,flatMap_cons→aO,take_length→bX,drop_length→pI,flatMap_append→bw,drop_zero→cR,take_append_of_le_length→fF,take_of_length_le→bA,drop_left→gg,take_left→gX,size_toArray→dD
open List.Pairwise renaming nil→cN
open Nat renaming zero_le→aP,lt_or_ge→bE,zero_add→aF,le_refl→al,min_eq_left→bG,sub_zero→eT,min→dY,add_one_mul→gn,one_mul→qe,le_mul_of_pos_left→oY,min_eq_right→pG
open Option renaming isSome_iff_exists→gP,some→bK
open UInt8 renaming toNat_inj→kP
namespace Go.Proofs
structure WO{α:Type}(lt:α→α→Bool):Prop where
 irr:∀a,lt a a=false
 asy:∀a b,lt a b=true→lt b a=false
 ntr:∀a b c,lt a b=false→lt b c=false→lt a c=false
section
variable {α:Type} {lt:α→α→Bool}
def KH(lt:α→α→Bool)(x a:α):Bool:= !lt a x&& !lt x a
def Srt(lt:α→α→Bool)(l:List α):Prop:=l.Pairwise fun a b=>lt b a=false
structure Eqf(lt:α→α→Bool)(l l':List α):Prop where
 len:l'.length=l.length
 flt:∀x,l'.filter (KH lt x)=l.filter (KH lt x)
structure St(lt:α→α→Bool)(l l':List α):Prop where
 eqf:Eqf lt l l'
 srt:Srt lt l'
theorem Eqf.rfl(l:List α):Eqf lt l l:=⟨_root_.rfl,fun _=>_root_.rfl⟩
theorem Eqf.tr{a b c:List α}(h:Eqf lt a b)(k:Eqf lt b c):Eqf lt a c:=⟨k.len.trans h.len,fun x=>(k.flt x).trans (h.flt x)⟩
theorem Eqf.app{a b a' b':List α}(h:Eqf lt a a')(k:Eqf lt b b'):Eqf lt (a++b) (a'++b'):=
 ⟨by rw[ae,ae,h.len,k.len],fun x=>by rw[gL,gL,h.flt,k.flt]⟩
theorem JT(w:WO lt)(a:α):KH lt a a=true:=by unfold KH;rw[w.irr];rfl
theorem Eqf.mem(w:WO lt){l l':List α}(h:Eqf lt l l'){a:α}:a∈l'↔a∈l:=by
 have e:=h.flt a;constructor
 ·intro hm
  have:a∈l'.filter (KH lt a):=d8.2 ⟨hm,JT w a⟩;rw[e]at this;exact(d8.1 this).1
 ·intro hm
  have:a∈l.filter (KH lt a):=d8.2 ⟨hm,JT w a⟩;rw[←e]at this;exact(d8.1 this).1
theorem SI(w:WO lt){x u v:α}(hu:KH lt x u=true)(hv:KH lt x v=true):lt v u=false:=by
 unfold KH at hu hv;simp only[Bool.and_eq_true,Bool.not_eq_true']at hu hv;exact w.ntr v x u hv.1 hu.2
theorem Eqf.swap(w:WO lt){U V:List α}(h:∀u∈U,∀v∈V,lt v u=true):Eqf lt (U++V) (V++U):=by
 refine⟨by rw[ae,ae,Nat.add_comm],fun x=>?_⟩
 rw[gL,gL];cases hU:U.filter (KH lt x)with
 |nil=>rw[aZ,dN]
 |cons u us=>
  cases hV:V.filter (KH lt x)with
  |nil=>rw[aZ,dN]
  |cons v vs=>
   have hu:u∈U.filter (KH lt x):=by rw[hU];exact av ..
   have hv:v∈V.filter (KH lt x):=by rw[hV];exact av ..
   have h1:=d8.1 hu;have h2:=d8.1 hv;have h3:=h u h1.1 v h2.1;rw[SI w h1.2 h2.2]at h3;cases h3
theorem Srt.app{a b:List α}(h:Srt lt a)(k:Srt lt b)(hab:∀x∈a,∀y∈b,lt y x=false):Srt lt (a++b):=cf.2 ⟨h,k,hab⟩
theorem Srt.left{a b:List α}(h:Srt lt (a++b)):Srt lt a:=(cf.1 h).1
theorem Srt.right{a b:List α}(h:Srt lt (a++b)):Srt lt b:=(cf.1 h).2.1
theorem Srt.cross{a b:List α}(h:Srt lt (a++b)):∀x∈a,∀y∈b,lt y x=false:=(cf.1 h).2.2
theorem Srt.nil:Srt lt ([]:List α):=cN
theorem Srt.one(a:α):Srt lt [a]:=List.pairwise_singleton ..
theorem PW(w:WO lt){S L G:List α}{t:α}(h:St lt S (L++G))(hL:∀l∈L,lt t l=false)(hG:∀g∈G,lt t g=true):St lt (S++ [t]) (L++t::G):=by
 refine⟨(h.eqf.app (Eqf.rfl [t])).tr ?_,?_⟩
 ·rw[ar]
  exact(Eqf.rfl L).app (Eqf.swap w (U:=G) (V:= [t]) fun u hu v hv=>by rw[ax.1 hv];exact hG u hu)
 ·refine h.srt.left.app (aW.2 ⟨fun g hg=>w.asy t g (hG g hg),h.srt.right⟩) fun x hx y hy=>?_
  rcases aC.1 hy with rfl|hy
  ·exact hL x hx
  ·exact h.srt.cross x hx y hy
theorem GY(w:WO lt){V1 V2:List α}{u:α}(h:Srt lt (V1++V2))(h1:∀v∈V1,lt v u=true)(h2:∀v∈V2,lt v u=false):St lt ([u]++(V1++V2)) (V1++u::V2):=by
 refine⟨?_,?_⟩
 ·rw[←ar]
  have:=(Eqf.swap w (U:= [u]) (V:=V1) fun x hx y hy=>by rw[ax.1 hx];exact h1 y hy).app (Eqf.rfl V2)
  rw[ar V1]at this;exact this
 ·refine h.left.app (aW.2 ⟨h2,h.right⟩) fun x hx y hy=>?_
  rcases aC.1 hy with rfl|hy
  ·exact w.asy x y (h1 x hx)
  ·exact h.cross x hx y hy
theorem IJ(w:WO lt){U1 U2:List α}{v:α}(h:Srt lt (U1++U2))(h1:∀u∈U1,lt v u=false)(h2:∀u∈U2,lt v u=true):St lt ((U1++U2)++ [v]) (U1++v::U2):=
 PW w ⟨Eqf.rfl _,h⟩ h1 h2
theorem Ob(w:WO lt){U1 U2 V1 V2 R1 R2:List α}(hU:Srt lt (U1++U2))(hV:Srt lt (V1++V2))(h1:∀v∈V1,∀u∈U2,lt v u=true)(h2:∀u∈U1,∀v∈V2,lt v u=false)(s1:St lt (U1++V1) R1)(s2:St lt (U2++V2) R2):St lt ((U1++U2)++(V1++V2)) (R1++R2):=by
 refine⟨?_,s1.srt.app s2.srt fun x hx y hy=>?_⟩
 ·have e:Eqf lt ((U1++U2)++(V1++V2)) ((U1++V1)++(U2++V2)):=by
   have:=((Eqf.rfl U1).app (Eqf.swap w (U:=U2) (V:=V1) fun u hu v hv=>h1 v hv u hu)).app (Eqf.rfl (lt:=lt) V2)
   simp only[ar]at this⊢;exact this
  exact e.tr (s1.eqf.app s2.eqf)
 ·rcases bL.1 ((s1.eqf.mem w).1 hx)with hx|hx<;>rcases bL.1 ((s2.eqf.mem w).1 hy)with hy|hy
  ·exact hU.cross x hx y hy
  ·exact h2 x hx y hy
  ·exact w.asy x y (h1 x hx y hy)
  ·exact hV.cross x hx y hy
inductive Runs(lt:α→α→Bool)(bs:Nat):List α→Prop where
 |last (l:List α):l.length≤bs→Srt lt l→Runs lt bs l
 |more (b l:List α):b.length=bs→Srt lt b→Runs lt bs l→Runs lt bs (b++l)
theorem Runs.split{bs:Nat}{l:List α}(h:Runs lt bs l)(hl:bs≤l.length):∃b r,l=b++r∧b.length=bs∧Srt lt b∧Runs lt bs r:=by
 cases h with
 |last _ h1 h2=>exact⟨l,[],(aZ l).symm,by omega,h2,.last _ (aP _) Srt.nil⟩
 |more b r h1 h2 h3=>exact⟨b,r,_root_.rfl,h1,h2,h3⟩
theorem Runs.short{bs:Nat}{l:List α}(h:Runs lt bs l)(hl:l.length≤bs):Srt lt l:=by
 cases h with
 |last _ h1 h2=>exact h2
 |more b r h1 h2 h3=>
  rw[ae]at hl;have:r= []:=aG.1 (by omega);rw[this,aZ];exact h2
def Full(lt:α→α→Bool)(bs:Nat)(d:List α):Prop:=∀z,Runs lt bs z→Runs lt bs (d++z)
theorem Full.nil{bs:Nat}:Full lt bs ([]:List α):=fun _ h=>h
theorem Full.app{bs:Nat}{d b:List α}(h:Full lt bs d)(hb:b.length=bs)(hs:Srt lt b):Full lt bs (d++b):=fun z hz=>by
 rw[ar];exact h _ (.more b z hb hs hz)
end
end Go.Proofs
namespace Go.Proofs
inductive Fo where
 |nil:Fo
 |cons (lab:List UInt8) (val:Option ByteArray) (kids rest:Fo):Fo
abbrev Bn:=List UInt8×Option ByteArray×Fo
def Fo.toL:Fo→List Bn
 | .nil=> []
 | .cons lab w kids rest=>(lab,w,kids)::rest.toL
theorem Fo.toL_cons(lab:List UInt8)(w:Option ByteArray)(kids rest:Fo):(Fo.cons lab w kids rest).toL=(lab,w,kids)::rest.toL:=rfl
def Fo.ofL:List Bn→Fo
 | []=>.nil
 |(lab,w,kids)::l=>.cons lab w kids (Fo.ofL l)
theorem Fo.to_of:∀l:List Bn,(Fo.ofL l).toL=l
 | []=>rfl
 |(_,_,_)::l=>by show _::(Fo.ofL l).toL=_;rw[Fo.to_of l]
theorem Fo.of_to:∀F:Fo,Fo.ofL F.toL=F
 | .nil=>rfl
 | .cons lab w kids rest=>by show Fo.cons lab w kids (Fo.ofL rest.toL)=_;rw[Fo.of_to rest]
def pe:Fo→List UInt8→ByteArray→Prop
 | .nil,_,_=>False
 | .cons lab w kids rest,k,v=>(∃r,k=lab++r∧((r= []∧w=some v)∨pe kids r v))∨pe rest k v
def qg(w:Option ByteArray)(F:Fo)(k:List UInt8)(v:ByteArray):Prop:=(k= []∧w=some v)∨pe F k v
def rN(n:Bn)(k:List UInt8)(v:ByteArray):Prop:=∃r,k=n.1++r∧qg n.2.1 n.2.2 r v
theorem fB:∀{F:Fo} {k:List UInt8} {v:ByteArray},pe F k v↔∃n∈F.toL,rN n k v
 | .nil,_,_=>by simp[pe,Fo.toL]
 | .cons lab w kids rest,k,v=>by
  rw[Fo.toL_cons];unfold pe;rw[fB (F:=rest)];constructor
  ·rintro(h|⟨n,hn,h⟩)
   ·exact⟨_,av ..,h⟩
   ·exact⟨n,aN _ hn,h⟩
  ·rintro⟨n,hn,h⟩
   rcases aC.1 hn with rfl|hn
   ·exact .inl h
   ·exact .inr ⟨n,hn,h⟩
def hd(k:List UInt8):Nat:=(k.headD 0).toNat
theorem oq{a b:List UInt8}(h:a≠[]):hd (a++b)=hd a:=by
 cases a with
 |nil=>exact absurd rfl h
 |cons x a=>rfl
theorem Td(a:List UInt8):hd a<256:=UInt8.toNat_lt _
def fx:Fo→Prop
 | .nil=>True
 | .cons lab w kids rest=>lab≠[]∧(w.isSome∨2≤kids.toL.length)∧fx kids∧(∀n∈rest.toL,hd lab<hd n.1)∧fx rest
def Kv(n:Bn):Prop:=n.1≠[]∧(n.2.1.isSome∨2≤n.2.2.toL.length)∧fx n.2.2
theorem eC:∀{F:Fo},fx F↔F.toL.Pairwise (fun m n=>hd m.1<hd n.1)∧∀n∈F.toL,Kv n
 | .nil=>by simp[fx,Fo.toL]
 | .cons lab w kids rest=>by
  rw[Fo.toL_cons,aW];show(lab≠[]∧(w.isSome∨2≤kids.toL.length)∧fx kids∧(∀n∈rest.toL,hd lab<hd n.1)∧fx rest)↔_
  rw[eC (F:=rest)];constructor
  ·rintro⟨h1,h2,h3,h4,h5,h6⟩
   refine⟨⟨h4,h5⟩,fun n hn=>?_⟩
   rcases aC.1 hn with rfl|hn
   ·exact⟨h1,h2,h3⟩
   ·exact h6 n hn
  ·rintro⟨⟨h4,h5⟩,h6⟩
   have:=h6 _ (av ..);exact⟨this.1,this.2.1,this.2.2,h4,h5,fun n hn=>h6 n (aN _ hn)⟩
theorem lV:∀{F:Fo},fx F→∀n∈F.toL,∃r v,qg n.2.1 n.2.2 r v
 | .nil,_,n,hn=>by simp[Fo.toL]at hn
 | .cons lab w kids rest,h,n,hn=>by
  rcases aC.1 hn with rfl|hn
  ·rcases h.2.1 with hw|hk
   ·obtain⟨v,hv⟩:=gP.1 hw
    exact⟨[],v,.inl ⟨rfl,hv⟩⟩
   ·have ih:=lV h.2.2.1
    have⟨m,hm⟩:∃m,m∈kids.toL:=by
     cases hl:kids.toL with
     |nil=>rw[hl]at hk;simp at hk
     |cons m l=>exact⟨m,av ..⟩
    obtain⟨r,v,hr⟩:=ih m hm;exact⟨m.1++r,v,.inr (fB.2 ⟨m,hm,r,rfl,hr⟩)⟩
  ·exact lV h.2.2.2.2 n hn
theorem nu{F:Fo}(h:fx F){k:List UInt8}{v:ByteArray}(hi:pe F k v):k≠[]:=by
 obtain⟨n,hn,r,rfl,_⟩:=fB.1 hi;have:=((eC.1 h).2 n hn).1;intro e;exact this (iC.1 e).1
theorem pw{F:Fo}(h:fx F){k:List UInt8}{v:ByteArray}(hi:pe F k v):∃n∈F.toL,hd n.1=hd k∧rN n k v:=by
 obtain⟨n,hn,r,e,hr⟩:=fB.1 hi;exact⟨n,hn,by rw[e,oq ((eC.1 h).2 n hn).1],r,e,hr⟩
theorem uO{F:Fo}(h:fx F){m n:Bn}(hm:m∈F.toL)(hn:n∈F.toL)(e:hd m.1=hd n.1):m=n:=by
 have hp:=(eC.1 h).1;revert hm hn;generalize F.toL=l at*;clear h;induction l with
 |nil=>intro hm;simp at hm
 |cons a l ih=>
  have hp:=aW.1 hp;intro hm hn;rcases aC.1 hm with e1|hm1
  ·rcases aC.1 hn with e2|hn1
   ·rw[e1,e2]
   ·have:=hp.1 n hn1;rw[←e1]at this;omega
  ·rcases aC.1 hn with e2|hn1
   ·have:=hp.1 m hm1;rw[←e2]at this;omega
   ·exact ih hp.2 hm1 hn1
def Br(P:List UInt8→ByteArray→Prop):Prop:=(∃v,P [] v)∨∃j k u v,P j u∧P k v∧j≠[]∧k≠[]∧hd j≠hd k
theorem Ea{w:Option ByteArray}{F:Fo}(h:fx F):(w.isSome∨2≤F.toL.length)↔Br (qg w F):=by
 constructor
 ·rintro(hw|hl)
  ·obtain⟨v,hv⟩:=gP.1 hw
   exact .inl ⟨v,.inl ⟨rfl,hv⟩⟩
  ·right
   have hs:=lV h;have hc:=eC.1 h;match hL:F.toL,hl with
   |a::b::l,_=>
    have ha:a∈F.toL:=by rw[hL];simp
    have hb:b∈F.toL:=by rw[hL];simp
    obtain⟨r,v,hr⟩:=hs a ha;obtain⟨s,u,hs⟩:=hs b hb;have h1:=(hc.2 a ha).1;have h2:=(hc.2 b hb).1;have:=hc.1;rw[hL]at this;have h3:=(aW.1 this).1 b (av ..);refine⟨a.1++r,b.1++s,v,u,.inr (fB.2 ⟨a,ha,r,rfl,hr⟩),.inr (fB.2 ⟨b,hb,s,rfl,hs⟩),?_,?_,?_⟩
    ·intro e;exact h1 (iC.1 e).1
    ·intro e;exact h2 (iC.1 e).1
    ·rw[oq h1,oq h2];omega
 ·rintro(⟨v,hv⟩|⟨j,k,u,v,hj,hk,nj,nk,hne⟩)
  ·rcases hv with⟨_,hv⟩|hv
   ·left;rw[hv];rfl
   ·exact absurd rfl (nu h hv)
  ·right
   rcases hj with⟨e,_⟩|hj
   ·exact absurd e nj
   rcases hk with⟨e,_⟩|hk
   ·exact absurd e nk
   obtain⟨m,hm,em,_⟩:=pw h hj;obtain⟨n,hn,en,_⟩:=pw h hk;match hL:F.toL with
   | []=>rw[hL]at hm;simp at hm
   | [a]=>
    rw[hL]at hm hn;rw[ax.1 hm]at em;rw[ax.1 hn]at en;omega
   |a::b::l=>simp
end Go.Proofs
namespace Go.Proofs
theorem Nz{m n:Bn}(hb:Br (qg m.2.1 m.2.2))(h:∀k v,rN m k v→rN n k v):∃t,m.1=n.1++t:=by
 rcases hb with⟨v,hv⟩|⟨j,k,u,v,hj,hk,nj,nk,hne⟩
 ·obtain⟨r,e,_⟩:=h m.1 v ⟨[],(aZ _).symm,hv⟩
  exact⟨r,e⟩
 ·obtain⟨r,e,_⟩:=h (m.1++j) u ⟨j,rfl,hj⟩
  obtain⟨s,f,_⟩:=h (m.1++k) v ⟨k,rfl,hk⟩;rcases List.append_eq_append_iff.1 e with⟨a,h1,h2⟩|⟨a,h1,h2⟩
  ·rw[h1,ar]at f
   have f:=eh f;cases a with
   |nil=>exact⟨[],by rw[h1];simp⟩
   |cons x a=>
    rw[h2]at hne;rw[f]at hne;exact absurd rfl hne
  ·exact⟨a,h1⟩
theorem Me:∀{F F':Fo},fx F→fx F'→(∀k v,pe F k v↔pe F' k v)→F=F'
 | .nil,.nil,_,_,_=>rfl
 | .nil,.cons lab w kids rest,_,h,he=>by
  obtain⟨r,v,hr⟩:=lV h _ (av ..);exact((he _ v).2 (fB.2 ⟨_,av ..,r,rfl,hr⟩)).elim
 | .cons lab w kids rest,.nil,h,_,he=>by
  obtain⟨r,v,hr⟩:=lV h _ (av ..);exact((he _ v).1 (fB.2 ⟨_,av ..,r,rfl,hr⟩)).elim
 | .cons lab w kids rest,.cons lab' w' kids' rest',h,h',he=>by
  have low:∀{lab w kids rest} {F:Fo},fx (.cons lab w kids rest)→fx F→(∀k v,pe F k v→pe (.cons lab w kids rest) k v)→∀n∈F.toL,hd lab≤hd n.1:=by
   intro lab w kids rest F h hF hi n hn;obtain⟨r,v,hr⟩:=lV hF n hn;obtain⟨m,hm,e,_⟩:=pw h (hi _ v (fB.2 ⟨n,hn,r,rfl,hr⟩));rw[oq ((eC.1 hF).2 n hn).1]at e;rcases aC.1 hm with rfl|hm
   ·simp only at e;omega
   ·have:=h.2.2.2.1 m hm;omega
  have e1:=low h h' (fun k v=>(he k v).2) _ (av ..)
  have e2:=low h' h (fun k v=>(he k v).1) _ (av ..)
  simp only at e1 e2;have ehd:hd lab=hd lab':=by omega
  have nod:∀{lab w kids rest lab' w' kids' rest'},fx (.cons lab w kids rest)→fx (.cons lab' w' kids' rest')→hd lab=hd lab'→(∀k v,pe (.cons lab w kids rest) k v→pe (.cons lab' w' kids' rest') k v)→(∀k v,rN (lab,w,kids) k v→rN (lab',w',kids') k v)∧(∀k v,pe rest k v→pe rest' k v):=by
   intro lab w kids rest lab' w' kids' rest' h h' ehd hi;refine⟨fun k v hk=>?_,fun k v hk=>?_⟩
   ·obtain⟨n,hn,e,hr⟩:=pw h' (hi k v (fB.2 ⟨_,av ..,hk⟩))
    obtain⟨r,rfl,_⟩:=hk;rw[oq h.1]at e;rw[←uO h' hn (av ..) (by simp only;omega)];exact hr
   ·obtain⟨m,hm,em,_⟩:=pw h.2.2.2.2 hk
    have:=h.2.2.2.1 m hm;obtain⟨n,hn,e,hr⟩:=pw h' (hi k v (Or.inr hk));rcases aC.1 hn with rfl|hn
    ·simp only at e;omega
    ·exact fB.2 ⟨n,hn,hr⟩
  have⟨n1,r1⟩:=nod h h' ehd fun k v=>(he k v).1
  have⟨n2,r2⟩:=nod h' h ehd.symm fun k v=>(he k v).2
  have erest:rest=rest':=Me h.2.2.2.2 h'.2.2.2.2 fun k v=>⟨r1 k v,r2 k v⟩
  obtain⟨t,ht⟩:=Nz (m:=(lab,w,kids)) (n:=(lab',w',kids')) ((Ea h.2.2.1).1 h.2.1) n1;obtain⟨t',ht'⟩:=Nz (m:=(lab',w',kids')) (n:=(lab,w,kids)) ((Ea h'.2.2.1).1 h'.2.1) n2;simp only at ht ht';have hlab:lab=lab':=by
   have:t= []:=by
    have h1:=congrArg dW ht;have h2:=congrArg dW ht';rw[ae]at h1 h2;exact aG.1 (by omega)
   rw[ht,this,aZ]
  subst hlab;have inR:∀{w kids w' kids'},(∀k v,rN (lab,w,kids) k v→rN (lab,w',kids') k v)→∀k v,qg w kids k v→qg w' kids' k v:=by
   intro w kids w' kids' hn k v hk;obtain⟨r,e,hr⟩:=hn (lab++k) v ⟨k,rfl,hk⟩;rw[eh e];exact hr
  have i1:=inR n1;have i2:=inR n2;have ew:w=w':=by
   have wv:∀{w kids w' kids'},fx kids'→(∀k v,qg w kids k v→qg w' kids' k v)→∀v,w=some v→w'=some v:=by
    intro w kids w' kids' hc hi v hv;rcases hi [] v (.inl ⟨rfl,hv⟩)with⟨_,h⟩|h
    ·exact h
    ·exact absurd rfl (nu hc h)
   exact Option.ext fun v=>⟨wv h'.2.2.1 i1 v,wv h.2.2.1 i2 v⟩
  have kd:∀{w kids w' kids'},fx kids→(∀k v,qg w kids k v→qg w' kids' k v)→∀k v,pe kids k v→pe kids' k v:=by
   intro w kids w' kids' hc hi k v hk;rcases hi k v (.inr hk)with⟨e,_⟩|h
   ·exact absurd e (nu hc hk)
   ·exact h
  have ekids:kids=kids':=Me h.2.2.1 h'.2.2.1 fun k v=>⟨kd h.2.2.1 i1 k v,kd h'.2.2.1 i2 k v⟩
  rw[ew,ekids,erest]
def tD(P P':List UInt8→ByteArray→Prop)(k:List UInt8)(v:ByteArray):Prop:=∀k' v',P' k' v'↔(k'=k∧v'=v)∨(k'≠k∧P k' v')
theorem FY{w:Option ByteArray}{F:Fo}(h:fx F)(v:ByteArray):tD (qg w F) (qg (some v) F) [] v:=by
 intro k' v';unfold qg;constructor
 ·rintro(⟨e,f⟩|hi)
  ·exact .inl ⟨e,(bK.inj f).symm⟩
  ·exact .inr ⟨nu h hi,.inr hi⟩
 ·rintro(⟨e,f⟩|⟨e,⟨f,_⟩|hi⟩)
  ·exact .inl ⟨e,by rw[f]⟩
  ·exact absurd f e
  ·exact .inr hi
theorem AP{w:Option ByteArray}{F F':Fo}{k:List UInt8}{v:ByteArray}(hk:k≠[])(h:tD (pe F) (pe F') k v):tD (qg w F) (qg w F') k v:=by
 intro k' v';unfold qg;rw[h k' v'];constructor
 ·rintro(⟨e,f⟩|hi|hi)
  ·exact .inr ⟨fun e'=>hk (e'.symm.trans e),.inl ⟨e,f⟩⟩
  ·exact .inl hi
  ·exact .inr ⟨hi.1,.inr hi.2⟩
 ·rintro(hi|⟨e,hi|hi⟩)
  ·exact .inr (.inl hi)
  ·exact .inl hi
  ·exact .inr (.inr ⟨e,hi⟩)
theorem OB{F:Fo}{k:List UInt8}{v:ByteArray}{i:Nat}(h:fx F)(hk:k≠[])(hi:∀j (hj:j<F.toL.length),j<i→hd F.toL[j].1<hd k)(hi':∀j (hj:j<F.toL.length),i≤j→hd k<hd F.toL[j].1):fx (.ofL (F.toL.take i++(k,some v,.nil)::F.toL.drop i))∧tD (pe F) (pe (.ofL (F.toL.take i++(k,some v,.nil)::F.toL.drop i))) k v:=by
 have hc:=eC.1 h;have t1:∀n∈F.toL.take i,hd n.1<hd k:=fun n hn=>by
  obtain⟨j,hj,e⟩:=bM hn;rw[aK]at hj;rw[←e,List.getElem_take];exact hi j (by omega) (by omega)
 have t2:∀n∈F.toL.drop i,hd k<hd n.1:=fun n hn=>by
  obtain⟨j,hj,e⟩:=bM hn;rw[aM]at hj;rw[←e,List.getElem_drop];exact hi' _ (by omega) (by omega)
 have mem:∀n,n∈F.toL.take i++(k,some v,.nil)::F.toL.drop i↔n=(k,some v,Fo.nil)∨n∈F.toL:=fun n=>by
  conv=>rhs;rw[←aH i F.toL]
  simp only[bL,aC];exact⟨fun h=>h.elim (fun h=>.inr (.inl h)) fun h=>h.elim .inl fun h=>.inr (.inr h),fun h=>h.elim (fun h=>.inr (.inl h)) fun h=>h.elim .inl fun h=>.inr (.inr h)⟩
 refine⟨eC.2 ⟨?_,?_⟩,fun k' v'=>?_⟩
 ·rw[Fo.to_of]
  have hp:=hc.1;rw[←aH i F.toL,cf]at hp;refine cf.2 ⟨hp.1,aW.2 ⟨t2,hp.2.1⟩,fun a ha b hb=>?_⟩
  rcases aC.1 hb with rfl|hb
  ·exact t1 a ha
  ·exact hp.2.2 a ha b hb
 ·rw[Fo.to_of]
  intro n hn;rcases(mem n).1 hn with rfl|hn
  ·exact⟨hk,.inl rfl,trivial⟩
  ·exact hc.2 n hn
 ·rw[fB,fB,Fo.to_of]
  constructor
  ·rintro⟨n,hn,r,e,hr⟩
   rcases(mem n).1 hn with rfl|hn
   ·rcases hr with⟨rfl,f⟩|f
    ·exact .inl ⟨by rw[e];exact aZ _,(bK.inj f).symm⟩
    ·exact f.elim
   ·right
    refine⟨fun e'=>?_,n,hn,r,e,hr⟩
    have e2:hd k=hd n.1:=by rw[←e',e,oq (hc.2 n hn).1]
    obtain⟨j,hj,ej⟩:=bM hn;rcases bE j i with h1|h1
    ·have:=hi j hj h1;rw[ej]at this;omega
    ·have:=hi' j hj h1;rw[ej]at this;omega
  ·rintro(⟨rfl,rfl⟩|⟨_,n,hn,h⟩)
   ·exact⟨(k',some v',.nil),(mem _).2 (.inl rfl),[],(aZ _).symm,.inl ⟨rfl,rfl⟩⟩
   ·exact⟨n,(mem _).2 (.inr hn),h⟩
theorem lR{α:Type}{l:List α}{i:Nat}(hi:i<l.length){a x:α}(nd:∀j (hj:j<l.length),j≠i→l[j]≠l[i]):x∈l.set i a↔x=a∨(x∈l∧x≠l[i]):=by
 constructor
 ·intro h
  obtain⟨j,hj,e⟩:=bM h;rw[ip]at hj;rw[List.getElem_set]at e;split at e
  ·exact .inl e.symm
  ·rename_i hne
   exact .inr ⟨by rw[←e];exact aU hj,by rw[←e];exact nd j hj fun e=>hne e.symm⟩
 ·rintro(rfl|⟨h,hne⟩)
  ·exact mO (i:=i) (h:=by simpa using hi) (by simp)
  ·obtain⟨j,hj,e⟩:=bM h
   have:i≠j:=by rintro rfl;exact hne e.symm
   exact mO (i:=j) (h:=by simpa using hj) (by rw[List.getElem_set_ne this];exact e)
theorem NP{F:Fo}{i:Nat}{m:Bn}(h:fx F)(hi:i<F.toL.length)(hm:Kv m)(e:hd m.1=hd F.toL[i].1):fx (.ofL (F.toL.set i m)):=by
 have hc:=eC.1 h;rw[eC,Fo.to_of];refine⟨?_,fun n hn=>?_⟩
 ·rw[ci]at hc⊢
  intro a b ha hb hab;rw[ip]at ha hb;rw[List.getElem_set,List.getElem_set];split
  ·rename_i ea;subst ea
   rw[if_neg (by omega),e];exact hc.1 _ _ ha hb hab
  ·split
   ·rename_i eb;subst eb
    rw[e];exact hc.1 _ _ ha hb hab
   ·exact hc.1 _ _ ha hb hab
 ·rcases List.mem_or_eq_of_mem_set hn with hn|rfl
  ·exact hc.2 n hn
  ·exact hm
theorem ux{F:Fo}(h:fx F){i:Nat}(hi:i<F.toL.length)(j:Nat)(hj:j<F.toL.length)(hne:j≠i):F.toL[j]≠F.toL[i]:=by
 have hc:=(eC.1 h).1;rw[ci]at hc;intro e;rcases Nat.lt_or_gt_of_ne hne with hl|hl
 ·have:=hc j i hj hi hl;rw[e]at this;omega
 ·have:=hc i j hi hj hl;rw[e]at this;omega
theorem Je{F:Fo}{i:Nat}{m:Bn}{k:List UInt8}{v:ByteArray}(h:fx F)(hi:i<F.toL.length)(ek:hd F.toL[i].1=hd k)(hp:tD (rN F.toL[i]) (rN m) k v):tD (pe F) (pe (.ofL (F.toL.set i m))) k v:=by
 intro k' v';have hc:=eC.1 h;rw[fB,fB,Fo.to_of];constructor
 ·rintro⟨n,hn,hr⟩
  rcases(lR hi (ux h hi)).1 hn with rfl|⟨hn,hne⟩
  ·rcases(hp k' v').1 hr with h1|⟨h1,h2⟩
   ·exact .inl h1
   ·exact .inr ⟨h1,_,aU hi,h2⟩
  ·refine .inr ⟨fun e=>hne ?_,n,hn,hr⟩
   obtain⟨r,e',_⟩:=hr;refine uO h hn (aU hi) ?_;rw[ek,←e,e',oq (hc.2 n hn).1]
 ·rintro(h1|⟨h1,n,hn,hr⟩)
  ·exact⟨m,(lR hi (ux h hi)).2 (.inl rfl),(hp k' v').2 (.inl h1)⟩
  ·by_cases e:n=F.toL[i]
   ·exact⟨m,(lR hi (ux h hi)).2 (.inl rfl),(hp k' v').2 (.inr ⟨h1,by rw[←e];exact hr⟩)⟩
   ·exact⟨n,(lR hi (ux h hi)).2 (.inr ⟨hn,e⟩),hr⟩
theorem OA{lab r:List UInt8}{w w':Option ByteArray}{F F':Fo}{v:ByteArray}(h:tD (qg w F) (qg w' F') r v):tD (rN (lab,w,F)) (rN (lab,w',F')) (lab++r) v:=by
 intro k' v';constructor
 ·rintro⟨s,e,hs⟩
  rcases(h s v').1 hs with⟨rfl,rfl⟩|⟨h1,h2⟩
  ·exact .inl ⟨e,rfl⟩
  ·exact .inr ⟨fun e'=>h1 (eh (e.symm.trans e')),s,e,h2⟩
 ·rintro(⟨rfl,rfl⟩|⟨h1,s,e,hs⟩)
  ·exact⟨r,rfl,(h r v').2 (.inl ⟨rfl,rfl⟩)⟩
  ·exact⟨s,e,(h s v').2 (.inr ⟨fun e'=>h1 (by rw[e,e']),hs⟩)⟩
def cm:List UInt8→List UInt8→Nat
 |a::x,b::y=>if a=b then cm x y+1 else 0
 |_,_=>0
theorem NO:∀(x y:List UInt8),cm x y≤x.length∧cm x y≤y.length
 | [],_=>by simp[cm]
 |_::_,[]=>by simp[cm]
 |a::x,b::y=>by unfold cm;have:=NO x y;split<;>simp<;>omega
theorem NM:∀(x y:List UInt8),x.take (cm x y)=y.take (cm x y)
 | [],_=>by simp[cm]
 |_::_,[]=>by simp[cm]
 |a::x,b::y=>by
  unfold cm;split
  ·rename_i e;rw[dd,dd,NM x y,e]
  ·simp
theorem HI:∀(x y:List UInt8),cm x y<x.length→cm x y<y.length→hd (x.drop (cm x y))≠hd (y.drop (cm x y))
 | [],_=>by simp[cm]
 |_::_,[]=>by simp[cm]
 |a::x,b::y=>by
  unfold cm;split
  ·rename_i e
   intro h1 h2;rw[List.length_cons]at h1 h2;rw[iz,iz];exact HI x y (by omega) (by omega)
  ·rename_i e
   intro _ _ h;exact e (kP.1 h)
theorem QS{x y:List UInt8}(hx:x≠[])(hy:y≠[])(h:hd x=hd y):0<cm x y:=by
 match x,y,hx,hy with
 |a::x,b::y,_,_=>
  unfold cm;rw[if_pos (show a=b from kP.1 h)]
  omega
theorem Gi{lab:List UInt8}{w:Option ByteArray}{F:Fo}(c:Nat):∀k v,rN (lab.take c,none,.cons (lab.drop c) w F .nil) k v↔rN (lab,w,F) k v:=by
 intro k v;constructor
 ·rintro⟨r,e,⟨_,h⟩|(⟨s,rfl,h⟩|h)⟩
  ·cases h
  ·exact⟨s,by rw[e];simp only;rw[←ar,aH],h⟩
  ·exact h.elim
 ·rintro⟨s,e,h⟩
  exact⟨lab.drop c++s,by rw[e];simp only;rw[←ar,aH],.inr (.inl ⟨s,rfl,h⟩)⟩
theorem QY{lab r:List UInt8}{w w':Option ByteArray}{F F':Fo}{v:ByteArray}(hl:lab≠[])(hb:w.isSome∨2≤F.toL.length)(hF:fx F)(hne:r≠[]→hd r≠hd lab)(h:tD (qg none (.cons lab w F .nil)) (qg w' F') r v):Br (qg w' F'):=by
 by_cases e:r= []
 ·subst e
  exact .inl ⟨v,(h [] v).2 (.inl ⟨rfl,rfl⟩)⟩
 ·have hc:fx (.cons lab w F .nil):=⟨hl,hb,hF,fun n hn=>by simp[Fo.toL]at hn,trivial⟩
  obtain⟨s,u,hs⟩:=lV hc _ (av ..);simp only at hs;have e2:hd (lab++s)=hd lab:=oq hl;refine .inr ⟨r,lab++s,v,u,(h r v).2 (.inl ⟨rfl,rfl⟩),(h _ u).2 (.inr ⟨fun e'=>hne e (by rw[←e',e2]),.inr (.inl ⟨s,rfl,hs⟩)⟩),e,fun e'=>hl (iC.1 e').1,by rw[e2];exact hne e⟩
theorem SM{P P':List UInt8→ByteArray→Prop}{k:List UInt8}{v:ByteArray}(hb:Br P)(h:tD P P' k v):Br P':=by
 have keep:∀j u,P j u→∃u',P' j u':=fun j u hj=>by
  by_cases e:j=k
  ·exact⟨v,(h j v).2 (.inl ⟨e,rfl⟩)⟩
  ·exact⟨u,(h j u).2 (.inr ⟨e,hj⟩)⟩
 rcases hb with⟨u,hu⟩|⟨j,k',u,u',hj,hk,r⟩
 ·obtain⟨u',h'⟩:=keep [] u hu
  exact .inl ⟨u',h'⟩
 ·obtain⟨a,ha⟩:=keep j u hj
  obtain⟨b,hb⟩:=keep k' u' hk;exact .inr ⟨j,k',a,b,ha,hb,r⟩
end Go.Proofs
namespace Go.Proofs
open Go.Lift
theorem AA(n:Int):0≤IntKind.wrap .u64 n∧IntKind.wrap .u64 n<18446744073709551616:=by rw[IntKind.wrap_u64];omega
theorem gr{x:Int}(h: -4611686018427387904≤x∧x≤4611686018427387904):IntKind.wrap .i64 x=x:=Go.IntWalk.i64_in _ (by omega)
theorem co{i n:Nat}(h:i<n)(hn:n≤4611686018427387904):IntKind.wrap .i64 ((i:Int)+1)=((i+1:Nat):Int):=by rw[gr (by omega)];omega
theorem tB{h:ad}{b i:Nat}{c:Array Value}{t:TypeId}{v:Value}{k:ad→Prop}(hb:h[b]? =some (.cells c t (0,0)))
  (hk:∀h',h'[b]? =some (.cells (c.setIfInBounds i v) t (0,0))→Upd (· =b) h h'→k h'):At (hset h ⟨b,i,none⟩ v) k:=by
 refine hk _ ?_ (Upd.hset _ _ rfl);rw[DP hb,jl hb]
def J9(a b:Int):Int:=IntKind.wrap .u64 (aq (IntKind.bits .u64) a&&&aq (IntKind.bits .u64) b).toNat
def dz(a b:Int):Int:=IntKind.wrap .u64 (aq (IntKind.bits .u64) a^^^aq (IntKind.bits .u64) b).toNat
def Dy(a b:Int):Int:=IntKind.wrap .u64 (aq (IntKind.bits .u64) a|||aq (IntKind.bits .u64) b).toNat
def Dn(x n:Int):Int:=
 Dy (IntKind.wrap .u64 (x*2^(min (J9 (IntKind.wrap .u64 n) 63).toNat (IntKind.bits .u64)))) (Int.fdiv x (2^(min (IntKind.wrap .u64 (64-J9 (IntKind.wrap .u64 n) 63)).toNat (IntKind.bits .u64))))
theorem AI{x n:Int}{h:ad}{K:Int→ad→Prop}(hk:K (Dn x n) h):HC PG du [.int .u64 x,.int .i64 n] [.c (.int .u64)] K h:=by
 refine tE x n ?_;unfold m3;exact⟨(AA _).1,(AA _).1,hk⟩
abbrev Q4:=Int×Int×Int×Int
def q4(s:Q4):Array Value:= #[.int .u64 s.1,.int .u64 s.2.1,.int .u64 s.2.2.1,.int .u64 s.2.2.2]
def Rb(a b:Int):Int:=IntKind.wrap .u64 (a+b)
def Ry(s:Q4):Q4:=(Rb s.1 s.2.1,s.2)
def RW(s:Q4):Q4:=(s.1,dz (Dn s.2.1 13) s.1,s.2.2)
def S5(s:Q4):Q4:=(Dn s.1 32,s.2)
def TD(s:Q4):Q4:=(s.1,s.2.1,Rb s.2.2.1 s.2.2.2,s.2.2.2)
def Ug(s:Q4):Q4:=(s.1,s.2.1,s.2.2.1,dz (Dn s.2.2.2 16) s.2.2.1)
def UD(s:Q4):Q4:=(Rb s.1 s.2.2.2,s.2)
def U5(s:Q4):Q4:=(s.1,s.2.1,s.2.2.1,dz (Dn s.2.2.2 21) s.1)
def Vi(s:Q4):Q4:=(s.1,s.2.1,Rb s.2.2.1 s.2.1,s.2.2.2)
def s09(s:Q4):Q4:=(s.1,dz (Dn s.2.1 17) s.2.2.1,s.2.2)
def s10(s:Q4):Q4:=(s.1,s.2.1,Dn s.2.2.1 32,s.2.2.2)
def km(s:Q4):Q4:=s10 (s09 (Vi (U5 (UD (Ug (TD (S5 (RW (Ry s)))))))))
def oe:Nat→Q4→Q4
 |0,s=>s
 |n+1,s=>oe n (km s)
theorem pt{h:ad}{b i:Nat}{t:TypeId}{s s':Q4}{v:Value}{k:ad→Prop}(hb:h[b]? =some (.cells (q4 s) t (0,0))) (e:(q4 s).setIfInBounds i v=q4 s')
  (hk:∀h',h'[b]? =some (.cells (q4 s') t (0,0))→Upd (· =b) h h'→k h'):At (hset h ⟨b,i,none⟩ v) k:=
 tB hb fun h' hb' hu=>hk h' (e▸hb') hu
theorem FP{n:Nat}(hn:n≤100){h:ad}{b:Nat}{t:TypeId}{s:Q4}(hb:h[b]? =some (.cells (q4 s) t (0,0))) {K:Unit→ad→Prop}
  (hk:∀h',h'[b]? =some (.cells (q4 (oe n s)) t (0,0))→Upd (· =b) h h'→K () h'):HC PG iT [.pointer (some ⟨b,0,none⟩),.int .i64 n] [] K h:=by
 refine yv _ _ ?_;unfold rA bl cD cT g5 lJ;refine LoopP.ghost (fun(g:Nat×Q4) (t':Int) h'=>t'=(g.1:Int)∧g.1≤n∧h'[b]? =some (.cells (q4 g.2) t (0,0))∧Upd (· =b) h h'∧oe (n-g.1) g.2=oe n s) (fun g=>n-g.1) (0,s) ⟨rfl,aP _,hb,Upd.refl _ _,rfl⟩ ?_
 rintro I ⟨i,s1⟩ t' h' ⟨ht,hi,hb1,hu,hr⟩ hI;simp only at ht hi hb1 hr;subst ht;refine ay (fun hlt=>?_) fun hge=>?_
 ·have hlt:i<n:=by omega
  have c:∀{h:ad} {s:Q4} {i:Nat},h[b]? =some (.cells (q4 s) t (0,0))→aE h ⟨b,0+i,none⟩=(q4 s)[i]?:=fun hb=>by rw[aF];exact ba hb
  have w:∀{h:ad} {s:Q4} {i:Nat},h[b]? =some (.cells (q4 s) t (0,0))→i<4→Wr h ⟨b,0+i,none⟩:=fun hb hi=>by rw[aF];exact hP hb hi
  simp only[show((0:Int)).toNat*1=0 from rfl,show((1:Int)).toNat*1=1 from rfl,show((2:Int)).toNat*1=2 from rfl,show((3:Int)).toNat*1=3 from rfl]
  refine⟨_,rfl,by decide,_,c (i:=0) hb1,_,rfl,by decide,_,c (i:=1) hb1,_,rfl,by decide,w (i:=0) hb1 (by decide),pt (s':=Ry s1) hb1 rfl fun h2 hb2 hu2=>?_⟩
  refine⟨_,rfl,by decide,_,c (i:=1) hb2,_,rfl,by decide,_,c (i:=0) hb2,_,rfl,AI ⟨c (i:=0) hb2,by decide,w (i:=1) hb2 (by decide),pt (s':=RW (Ry s1)) hb2 rfl fun h3 hb3 hu3=>?_⟩⟩
  refine⟨_,rfl,by decide,_,c (i:=0) hb3,_,rfl,AI ⟨by decide,w (i:=0) hb3 (by decide),pt (s':=S5 (RW (Ry s1))) hb3 rfl fun h4 hb4 hu4=>?_⟩⟩
  refine⟨_,rfl,by decide,_,c (i:=2) hb4,_,rfl,by decide,_,c (i:=3) hb4,_,rfl,by decide,w (i:=2) hb4 (by decide),pt (s':=TD (S5 (RW (Ry s1)))) hb4 rfl fun h5 hb5 hu5=>?_⟩
  refine⟨_,rfl,by decide,_,c (i:=3) hb5,_,rfl,by decide,_,c (i:=2) hb5,_,rfl,AI ⟨c (i:=2) hb5,by decide,w (i:=3) hb5 (by decide),pt (s':=Ug (TD (S5 (RW (Ry s1))))) hb5 rfl fun h6 hb6 hu6=>?_⟩⟩
  refine⟨_,rfl,by decide,_,c (i:=0) hb6,_,rfl,by decide,_,c (i:=3) hb6,_,rfl,by decide,w (i:=0) hb6 (by decide),pt (s':=UD (Ug (TD (S5 (RW (Ry s1)))))) hb6 rfl fun h7 hb7 hu7=>?_⟩
  refine⟨_,rfl,by decide,_,c (i:=3) hb7,_,rfl,by decide,_,c (i:=0) hb7,_,rfl,AI ⟨c (i:=0) hb7,by decide,w (i:=3) hb7 (by decide),pt (s':=U5 (UD (Ug (TD (S5 (RW (Ry s1))))))) hb7 rfl fun h8 hb8 hu8=>?_⟩⟩
  refine⟨_,rfl,by decide,_,c (i:=2) hb8,_,rfl,by decide,_,c (i:=1) hb8,_,rfl,by decide,w (i:=2) hb8 (by decide),pt (s':=Vi (U5 (UD (Ug (TD (S5 (RW (Ry s1)))))))) hb8 rfl fun h9 hb9 hu9=>?_⟩
  refine⟨_,rfl,by decide,_,c (i:=1) hb9,_,rfl,by decide,_,c (i:=2) hb9,_,rfl,AI ⟨c (i:=2) hb9,by decide,w (i:=1) hb9 (by decide),pt (s':=s09 (Vi (U5 (UD (Ug (TD (S5 (RW (Ry s1))))))))) hb9 rfl fun h10 hb10 hu10=>?_⟩⟩
  refine⟨_,rfl,by decide,_,c (i:=2) hb10,_,rfl,AI ⟨by decide,w (i:=2) hb10 (by decide),pt (s':=km s1) hb10 rfl fun h11 hb11 hu11=>?_⟩⟩
  rw[co hlt (by omega)];refine hI (i+1,km s1) _ _ ⟨rfl,hlt,hb11,hu.tr (hu2.tr (hu3.tr (hu4.tr (hu5.tr (hu6.tr (hu7.tr (hu8.tr (hu9.tr (hu10.tr hu11))))))))),?_⟩ (by simp only;omega);simp only;rw[←hr,show n-i=(n-(i+1))+1 by omega];rfl
 ·obtain rfl:i=n:=by omega
  rw[Nat.sub_self]at hr;have hr:s1=oe i s:=hr;rw[←hr]at hk;exact hk _ hb1 hu
end Go.Proofs
namespace Go.Proofs
open Go.Lift
def JZ(s:ByteArray)(i:Nat):Int:=match s[i]? with|some b=>(b.toNat:Int)|none=>0
def S4(b:Int)(n:Int):Int:=IntKind.wrap .u64 ((IntKind.wrap .u64 b)*2^(min n.toNat (IntKind.bits .u64)))
def wj(s:ByteArray):Nat→Int→Int
 |0,t=>t
 |k+1,t=>wj s k (Dy t (if k=0 then IntKind.wrap .u64 (JZ s 0)else S4 (JZ s k) ((8*k:Nat):Int)))
def xd(s:ByteArray):Int:=wj s s.size 0
theorem se{s:ByteArray}{i:Nat}(h:i<s.size):∃b,s[i]? =some b∧JZ s i=(b.toNat:Int):=⟨s[i],getElem?_pos s i h,by simp[JZ,getElem?_pos s i h]⟩
theorem M2{s:ByteArray}(hs:s.size≤8){h:ad}{K:Int→ad→Prop}(hk:K (xd s) h):HC PG uD [.string s] [.c (.int .u64)] K h:=by
 refine Mx s ?_;unfold Eu;refine Join.intro (fun t h'=>h'=h∧1≤s.size∧wj s 1 t=wj s s.size 0) (fun R1 hR1=>?_) ?_
 ·refine Join.intro (fun t h'=>h'=h∧2≤s.size∧wj s 2 t=wj s s.size 0) (fun R2 hR2=>?_) ?_
  ·refine Join.intro (fun t h'=>h'=h∧3≤s.size∧wj s 3 t=wj s s.size 0) (fun R3 hR3=>?_) ?_
   ·refine Join.intro (fun t h'=>h'=h∧4≤s.size∧wj s 4 t=wj s s.size 0) (fun R4 hR4=>?_) ?_
    ·refine Join.intro (fun t h'=>h'=h∧5≤s.size∧wj s 5 t=wj s s.size 0) (fun R5 hR5=>?_) ?_
     ·refine Join.intro (fun t h'=>h'=h∧6≤s.size∧wj s 6 t=wj s s.size 0) (fun R6 hR6=>?_) ?_
      ·refine Join.intro (fun t h'=>h'=h∧7≤s.size∧wj s 7 t=wj s s.size 0) (fun R7 hR7=>?_) ?_
       ·refine CondP.intro (fun e=>?_) fun e8=>?_
        ·have e:s.size=8:=by have:=of_decide_eq_true (by simpa using e:decide ((s.size:Int)=8)=true);omega
         obtain⟨b,hb,hv⟩:=se (s:=s) (i:=7) (by omega);refine⟨b,by decide,hb,by decide,hR7 _ _ ⟨rfl,by omega,?_⟩⟩
         rw[e,←hv];rfl
        refine CondP.intro (fun e=>?_) fun e7=>?_
        ·have e:s.size=7:=by have:=of_decide_eq_true (by simpa using e:decide ((s.size:Int)=7)=true);omega
         exact hR7 _ _ ⟨rfl,by omega,by rw[e]⟩
        refine CondP.intro (fun e=>?_) fun e6=>?_
        ·have e:s.size=6:=by have:=of_decide_eq_true (by simpa using e:decide ((s.size:Int)=6)=true);omega
         exact hR6 _ _ ⟨rfl,by omega,by rw[e]⟩
        refine CondP.intro (fun e=>?_) fun e5=>?_
        ·have e:s.size=5:=by have:=of_decide_eq_true (by simpa using e:decide ((s.size:Int)=5)=true);omega
         exact hR5 _ _ ⟨rfl,by omega,by rw[e]⟩
        refine CondP.intro (fun e=>?_) fun e4=>?_
        ·have e:s.size=4:=by have:=of_decide_eq_true (by simpa using e:decide ((s.size:Int)=4)=true);omega
         exact hR4 _ _ ⟨rfl,by omega,by rw[e]⟩
        refine CondP.intro (fun e=>?_) fun e3=>?_
        ·have e:s.size=3:=by have:=of_decide_eq_true (by simpa using e:decide ((s.size:Int)=3)=true);omega
         exact hR3 _ _ ⟨rfl,by omega,by rw[e]⟩
        refine CondP.intro (fun e=>?_) fun e2=>?_
        ·have e:s.size=2:=by have:=of_decide_eq_true (by simpa using e:decide ((s.size:Int)=2)=true);omega
         exact hR2 _ _ ⟨rfl,by omega,by rw[e]⟩
        refine CondP.intro (fun e=>?_) fun e1=>?_
        ·have e:s.size=1:=by have:=of_decide_eq_true (by simpa using e:decide ((s.size:Int)=1)=true);omega
         exact hR1 _ _ ⟨rfl,by omega,by rw[e]⟩
        have e:s.size=0:=by
         have q1:¬(s.size:Int)=1:=by simpa using e1
         have q2:¬(s.size:Int)=2:=by simpa using e2
         have q3:¬(s.size:Int)=3:=by simpa using e3
         have q4:¬(s.size:Int)=4:=by simpa using e4
         have q5:¬(s.size:Int)=5:=by simpa using e5
         have q6:¬(s.size:Int)=6:=by simpa using e6
         have q7:¬(s.size:Int)=7:=by simpa using e7
         have q8:¬(s.size:Int)=8:=by simpa using e8
         omega
        unfold xd at hk;rw[e]at hk;exact hk
       ·rintro t _ ⟨rfl,hsz,ht⟩
        obtain⟨b,hb,hv⟩:=se (s:=s) (i:=6) (by omega);refine⟨b,by decide,hb,by decide,hR6 _ _ ⟨rfl,by omega,?_⟩⟩
        rw[←ht,←hv];rfl
      ·rintro t _ ⟨rfl,hsz,ht⟩
       obtain⟨b,hb,hv⟩:=se (s:=s) (i:=5) (by omega);refine⟨b,by decide,hb,by decide,hR5 _ _ ⟨rfl,by omega,?_⟩⟩
       rw[←ht,←hv];rfl
     ·rintro t _ ⟨rfl,hsz,ht⟩
      obtain⟨b,hb,hv⟩:=se (s:=s) (i:=4) (by omega);refine⟨b,by decide,hb,by decide,hR4 _ _ ⟨rfl,by omega,?_⟩⟩
      rw[←ht,←hv];rfl
    ·rintro t _ ⟨rfl,hsz,ht⟩
     obtain⟨b,hb,hv⟩:=se (s:=s) (i:=3) (by omega);refine⟨b,by decide,hb,by decide,hR3 _ _ ⟨rfl,by omega,?_⟩⟩
     rw[←ht,←hv];rfl
   ·rintro t _ ⟨rfl,hsz,ht⟩
    obtain⟨b,hb,hv⟩:=se (s:=s) (i:=2) (by omega);refine⟨b,by decide,hb,by decide,hR2 _ _ ⟨rfl,by omega,?_⟩⟩
    rw[←ht,←hv];rfl
  ·rintro t _ ⟨rfl,hsz,ht⟩
   obtain⟨b,hb,hv⟩:=se (s:=s) (i:=1) (by omega);refine⟨b,by decide,hb,by decide,hR1 _ _ ⟨rfl,by omega,?_⟩⟩
   rw[←ht,←hv];rfl
 ·rintro t _ ⟨rfl,hsz,ht⟩
  obtain⟨b,hb,hv⟩:=se (s:=s) (i:=0) (by omega);refine⟨b,by decide,hb,?_⟩
  unfold xd at hk;rw[←ht]at hk;rw[←hv];exact hk
end Go.Proofs
namespace Go.Proofs
open Go.Lift
def qA(m:Int)(s:Q4):Q4:=
 let r:=oe 2 (s.1,s.2.1,s.2.2.1,dz s.2.2.2 m)
 (dz r.1 m,r.2)
theorem M7{m:Int}{h:ad}{b:Nat}{t:TypeId}{s:Q4}(hb:h[b]? =some (.cells (q4 s) t (0,0))) {K:Unit→ad→Prop}
  (hk:∀h',h'[b]? =some (.cells (q4 (qA m s)) t (0,0))→Upd (· =b) h h'→K () h'):HC PG ml [.pointer (some ⟨b,0,none⟩),.int .u64 m] [] K h:=by
 refine Bi _ _ ?_;unfold ud bl cD un cT;have c:∀{h:ad} {s:Q4} {i:Nat},h[b]? =some (.cells (q4 s) t (0,0))→aE h ⟨b,0+i,none⟩=(q4 s)[i]?:=fun hb=>by rw[aF];exact ba hb
 have w:∀{h:ad} {s:Q4} {i:Nat},h[b]? =some (.cells (q4 s) t (0,0))→i<4→Wr h ⟨b,0+i,none⟩:=fun hb hi=>by rw[aF];exact hP hb hi
 simp only[show((0:Int)).toNat*1=0 from rfl,show((3:Int)).toNat*1=3 from rfl]
 refine⟨_,rfl,by decide,_,c (i:=3) hb,_,rfl,by decide,w (i:=3) hb (by decide),pt (s':=(s.1,s.2.1,s.2.2.1,dz s.2.2.2 m)) hb rfl fun h2 hb2 hu2=>?_⟩
 refine FP (n:=2) (by omega) hb2 fun h3 hb3 hu3=>?_
 have et:qA m s=(dz (oe 2 (s.1,s.2.1,s.2.2.1,dz s.2.2.2 m)).1 m,(oe 2 (s.1,s.2.1,s.2.2.1,dz s.2.2.2 m)).2):=by unfold qA;rfl
 rw[et]at hk;generalize oe 2 (s.1,s.2.1,s.2.2.1,dz s.2.2.2 m)=r at hb3 hk;refine⟨_,rfl,by decide,_,c (i:=0) hb3,_,rfl,by decide,w (i:=0) hb3 (by decide),pt (s':=(dz r.1 m,r.2)) hb3 rfl fun h4 hb4 hu4=>?_⟩
 exact hk _ hb4 (hu2.tr (hu3.tr hu4))
def BB:Nat→ByteArray→Q4→ByteArray×Q4
 |0,s,q=>(s,q)
 |n+1,s,q=>if 8≤s.size then BB n (s.extract 8 s.size) (qA (xd (s.extract 0 8)) q)else(s,q)
def TW(r:Q4):Int:=dz (dz (dz r.1 r.2.1) r.2.2.1) r.2.2.2
def SC(q:Q4):Int:=TW (oe 4 (q.1,q.2.1,dz q.2.2.1 255,q.2.2.2))
def UC(n:Nat)(g:ByteArray×Q4):Int:=SC (qA (Dy (xd g.1) (S4 (n:Int) 56)) g.2)
def K3(k0 k1:Int)(s:ByteArray):Int:=
 UC s.size (BB s.size s (dz k0 8317987319222330741,dz k1 7237128888997146477,dz k0 7816392313619706465,dz k1 8387220255154660723))
theorem SD{h29:ad}{b:Nat}{t:TypeId}{r:Q4}(hb:h29[b]? =some (.cells (q4 r) t (0,0))) {K:Int→Prop} (hk:K (TW r)):
  (((0:Int)≤(0:Int)∧(0:Int)<((4:Nat):Int))∧
   ∃v30:Int,aE h29 (adr ⟨b,0,none⟩ ((0:Int).toNat*1))=some (.int .u64 v30)∧
   (((0:Int)≤(1:Int)∧(1:Int)<((4:Nat):Int))∧
    ∃v31:Int,aE h29 (adr ⟨b,0,none⟩ ((1:Int).toNat*1))=some (.int .u64 v31)∧
    Bd (IntKind.wrap .u64 (aq (IntKind.bits .u64) v30^^^aq (IntKind.bits .u64) v31).toNat:Int) (fun n32=>
     (((0:Int)≤(2:Int)∧(2:Int)<((4:Nat):Int))∧
      ∃v33:Int,aE h29 (adr ⟨b,0,none⟩ ((2:Int).toNat*1))=some (.int .u64 v33)∧
      Bd (IntKind.wrap .u64 (aq (IntKind.bits .u64) n32^^^aq (IntKind.bits .u64) v33).toNat:Int) (fun n34=>
       (((0:Int)≤(3:Int)∧(3:Int)<((4:Nat):Int))∧
        ∃v35:Int,aE h29 (adr ⟨b,0,none⟩ ((3:Int).toNat*1))=some (.int .u64 v35)∧
        Bd (IntKind.wrap .u64 (aq (IntKind.bits .u64) n34^^^aq (IntKind.bits .u64) v35).toNat:Int) (fun n36=>
         K n36))))))):=by
 have c:∀{i:Nat},aE h29 ⟨b,0+i,none⟩=(q4 r)[i]?:=by intro i;rw[aF];exact ba hb
 exact⟨by decide,_,c (i:=0),by decide,_,c (i:=1),by decide,_,c (i:=2),by decide,_,c (i:=3),hk⟩
theorem SB{h24:ad}{b:Nat}{t:TypeId}{q:Q4}(hb:h24[b]? =some (.cells (q4 q) t (0,0))) {K:Unit→ad→Prop}
  (hk:∀h',h'[b]? =some (.cells (q4 (oe 4 (q.1,q.2.1,dz q.2.2.1 255,q.2.2.2))) t (0,0))→Upd (· =b) h24 h'→K () h'):
  (((0:Int)≤(2:Int)∧(2:Int)<((4:Nat):Int))∧
   ∃v25:Int,aE h24 (adr ⟨b,0,none⟩ ((2:Int).toNat*1))=some (.int .u64 v25)∧
   Bd (IntKind.wrap .u64 (aq (IntKind.bits .u64) v25^^^aq (IntKind.bits .u64) 255).toNat:Int) (fun n26=>
    (((0:Int)≤(2:Int)∧(2:Int)<((4:Nat):Int))∧
     (Wr h24 (adr ⟨b,0,none⟩ ((2:Int).toNat*1))∧
      At (hset h24 (adr ⟨b,0,none⟩ ((2:Int).toNat*1)) (.int .u64 n26)) (fun h27=>
       HC PG iT [.pointer (some ⟨b,0,none⟩),.int .i64 4] [] K h27))))):=by
 have c:∀{i:Nat},aE h24 ⟨b,0+i,none⟩=(q4 q)[i]?:=by intro i;rw[aF];exact ba hb
 refine⟨by decide,_,c (i:=2),by decide,by rw[show((2:Int)).toNat*1=2 from rfl,bQ];exact hP hb (by simp[q4]),?_⟩
 refine pt (s':=(q.1,q.2.1,dz q.2.2.1 255,q.2.2.2)) hb rfl fun h3 hb3 hu3=>?_
 exact FP (n:=4) (by omega) hb3 fun h4 hb4 hu4=>hk h4 hb4 (hu3.tr hu4)
theorem bo{h:ad}{k:ad→Prop}(hk:k h):At h k:=hk
theorem TA{k0 k1:Int}{s:ByteArray}{h:ad}{K:Int→ad→Prop}(hk:∀h',Upd No h h'→K (K3 k0 k1 s) h'):HC PG A2 [.agg #[.int .u64 k0,.int .u64 k1],.string s] [.c (.int .u64)] K h:=by
 refine Pd (k0,k1) s ?_;unfold GD bl cD ao nv un cT g5 UH NW N0 RG;have k1':=Upd.hnew No h [.int .u64 k0,.int .u64 k1] kR;have b1:=bW h [.int .u64 k0,.int .u64 k1] kR;have z1:=jg h [.int .u64 k0,.int .u64 k1] kR;refine bo ?_;simp only[cM h];generalize hnew h [.int .u64 k0,.int .u64 k1] kR=h1 at k1' b1 z1;refine⟨k0,by rw[bQ,ba b1];rfl,k1,by rw[bQ,ba b1];rfl,k0,by rw[bQ,ba b1];rfl,k1,by rw[bQ,ba b1];rfl,?_⟩
 have k2:=Upd.hnew No h1 [.int .u64 0,.int .u64 0,.int .u64 0,.int .u64 0] jj;have b2:=bW h1 [.int .u64 0,.int .u64 0,.int .u64 0,.int .u64 0] jj;simp only[cM h1];simp only[Bd];refine bo ?_;refine⟨.inr ⟨_,rfl,fun j hj=>by rw[bQ];exact hP b2 (by simp at hj⊢;omega)⟩,?_⟩
 refine bo ?_;rw[jf _ _ 0 0 _ b2 (by simp)];have b3:=jl (o:=.cells (q4 (dz k0 8317987319222330741,dz k1 7237128888997146477,dz k0 7816392313619706465,dz k1 8387220255154660723)) jj (0,0)) b2;have k3:Upd No h _:=k1'.tr (k2.trans (M':=(· =h1.size)) (Upd.set (hnew h1 [.int .u64 0,.int .u64 0,.int .u64 0,.int .u64 0] jj) (.cells (q4 (dz k0 8317987319222330741,dz k1 7237128888997146477,dz k0 7816392313619706465,dz k1 8387220255154660723)) jj (0,0)) rfl) fun b hb=>.inr (Nat.le_of_eq hb.symm))
 refine LoopP.ghost (fun(g:Nat×Q4) (t':ByteArray) h'=>t'.size≤g.1∧h'[h1.size]? =some (.cells (q4 g.2) jj (0,0))∧Upd No h h'∧BB g.1 t' g.2=BB s.size s (dz k0 8317987319222330741,dz k1 7237128888997146477,dz k0 7816392313619706465,dz k1 8387220255154660723)) (fun g=>g.1) (s.size,_)
  ⟨al _,b3,k3,rfl⟩ ?_
 rintro I ⟨n,q⟩ t' h' ⟨hn,hb,hu,hg⟩ hI;simp only at hn hb hg;have hsh:∀b,b=h1.size→No b∨h.size≤b:=fun b hb=>.inr (by omega)
 refine ay (fun hge=>?_) fun hlt=>?_
 ·have hge:8≤t'.size:=by omega
  cases n with
  |zero=>omega
  |succ n=>
   refine⟨by omega,M2 (by rw[fq];show min 8 _-0≤8;omega) (M7 hb fun h2 hb2 hu2=>⟨by omega,?_⟩)⟩
   have e8:((8:Int)).toNat=8:=rfl;rw[e8]at hb2⊢;refine hI (n,qA (xd (t'.extract 0 8)) q) _ _ ⟨by simp only[fq];omega,hb2,hu.trans hu2 hsh,?_⟩ (by simp only;omega);rw[←hg];simp only[BB,if_pos hge]
 ·have hlt:t'.size<8:=by omega
  have hg:(t',q)=BB s.size s (dz k0 8317987319222330741,dz k1 7237128888997146477,dz k0 7816392313619706465,dz k1 8387220255154660723):=by
   rw[←hg];cases n with
   |zero=>rfl
   |succ n=>simp only[BB,if_neg (show ¬8≤t'.size by omega)]
  have c:∀{h:ad} {s:Q4} {i:Nat},h[h1.size]? =some (.cells (q4 s) jj (0,0))→aE h ⟨h1.size,0+i,none⟩=(q4 s)[i]?:=fun hb=>by rw[aF];exact ba hb
  have w:∀{h:ad} {s:Q4} {i:Nat},h[h1.size]? =some (.cells (q4 s) jj (0,0))→i<4→Wr h ⟨h1.size,0+i,none⟩:=fun hb hi=>by rw[aF];exact hP hb hi
  have hsv:K3 k0 k1 s=SC (qA (Dy (xd t') (S4 (s.size:Int) 56)) q):=by unfold K3;rw[←hg];rfl
  rw[hsv]at hk;refine M2 (by omega) ⟨by decide,M7 (m:=Dy (xd t') (S4 (s.size:Int) 56)) hb fun h2 hb2 hu2=>?_⟩
  refine SB hb2 fun h4 hb4 hu4=>SD (K:=fun n=>K n h4) hb4 ?_
  exact hk h4 ((hu.trans hu2 hsh).trans hu4 hsh)
structure Hs where
 k0:Int
 k1:Int
 mask:Int
def g9(h:Hs)(s:ByteArray):Int:=J9 (K3 h.k0 h.k1 s) h.mask
theorem rW{x:Hs}{s:ByteArray}{h:ad}{K:Int→ad→Prop}(hk:∀h',Upd No h h'→K (g9 x s) h'):HC PG eo [.agg #[.int .u64 x.k0,.int .u64 x.k1,.int .u64 x.mask],.string s] [.c (.int .u64)] K h:=by
 refine zN (x.k0,x.k1,x.mask) s ?_;unfold sB ao cP yM g5 Us;have k1':=Upd.hnew No h [.int .u64 x.k0,.int .u64 x.k1,.int .u64 x.mask] cr;have b1:=bW h [.int .u64 x.k0,.int .u64 x.k1,.int .u64 x.mask] cr;simp only[At,cM h];generalize hnew h [.int .u64 x.k0,.int .u64 x.k1,.int .u64 x.mask] cr=h1 at k1' b1;refine⟨x.k0,by rw[bQ,bQ,ba b1];rfl,x.k1,by rw[bQ,bQ,ba b1];rfl,x.mask,by rw[bQ,ba b1];rfl,?_⟩
 refine TA fun h2 hu=>⟨by rw[bQ,ba (hu.get0 b1)];rfl,hk _ (k1'.tr hu)⟩
theorem BN(x:Hs)(s:ByteArray):0≤g9 x s∧g9 x s<18446744073709551616:=AA _
end Go.Proofs
namespace Go.Proofs
open Go Go.Lift
abbrev eJ(x:ByteArray×ByteArray):List Value:= [.string x.1,.string x.2]
theorem ig(x:ByteArray×ByteArray):(eJ x).length=2∧0<2:=⟨rfl,by omega⟩
theorem wH:∀xs:List (ByteArray×ByteArray),cj (xs.flatMap eJ)=true
 | []=>rfl
 |x::xs=>by rw[aO];exact ko rfl (wH xs)
theorem Hj{h:ad}{vb b o la ca lb cb:Nat}{cv cw:Array Value}{tv tb:TypeId}(hv:h[vb]? =some (.cells cv tv (0,0))) (hb:h[b]? =some (.cells cw tb (0,0))) (hn:vb≠b) (h0:cw.size≠0) {K:Bool→ad→Prop} (hk:K false h):
  HC PG iA [.slice (some ⟨vb,0,none⟩) la ca,.slice (some ⟨b,o,none⟩) lb cb] [.c .bool] K h:=by
 refine⟨fun w hw=>.inr ⟨.bool false,w,?_,Tame.refl w,false,rfl,hw▸hk⟩⟩
 subst hw;rw[qS];have:=Lib.run_overlaps_apart (P:=PG) w dh sZ aj (by kernel_rfl) (bZ PG aj) (pZ (by kernel_rfl)) ⟨vb,0,none⟩ ⟨b,o,none⟩ la ca lb cb hn tv tb cv.size cw.size
  (by simp[World.shape?,hv]) (by simp[World.shape?,hb]) h0 (by simp[World.frozen?,hv]) (by simp[World.frozen?,hv])
 rw[show([Value.slice (some ⟨vb,0,none⟩) la ca,Value.slice (some ⟨b,o,none⟩) lb cb]:List Value).toArray= #[.slice (some ⟨vb,0,none⟩) la ca,.slice (some ⟨b,o,none⟩) lb cb]from rfl,this]
 rfl
set_option maxRecDepth 4000 in
theorem LX{M:Nat→Prop}{h:ad}{s:SliceV}{xs:List (ByteArray×ByteArray)}(hs:OwnS eJ 2 aj M h s xs){k:Nat}(hkl:k≤xs.length)(hn:(xs.length+1)*32≤140737488355328){x:ByteArray×ByteArray}{vb:Nat}(hv:h[vb]? =some (.cells (eJ x).toArray aj (0,0)))
  (hvM:¬M vb) (hM:∀b,h.size≤b→M b) {K:SliceV→ad→Prop} (hK:∀s' h',OwnS eJ 2 aj M h' s' (xs.take k++x::xs.drop k)→Upd M h h'→K s' h'):
  HC PG cV [.slice s.a s.len s.cap,.int .i64 k,.slice (some ⟨vb,0,none⟩) 1 1] [.c .slice] K h:=by
 refine mu s k ⟨some ⟨vb,0,none⟩,1,1⟩ ?_;unfold hE jN;have hlen:=hs.len;have hcap:=hs.cap;have hxr:SRow h (some ⟨vb,0,none⟩) (1*2) (eJ x):=⟨rfl,.inr ⟨_,rfl,od hv fun i v hi=>by simpa using hi⟩⟩
 refine⟨by omega,ag.2 ?_⟩;refine CondP.intro (fun e=>?_) fun e=>?_
 ·have e:k=xs.length:=by have:=of_decide_eq_true (by simpa using e:decide ((k:Int)=(s.len:Int))=true);omega
  subst e;refine⟨_,hxr,AppP.own (ys:= [x]) hs rfl (by simp) rfl rfl (by omega) (by simp;omega) (hM _ (al _)) fun s' h' ho hu=>hK s' h' ?_ hu⟩
  rw[bX,pI];exact ho
 have hlt:k<xs.length:=by
  rcases bE k xs.length with h|h
  ·exact h
  ·have:((k:Int)==(s.len:Int))=true:=by rw[beq_iff_eq];omega
   rw[this]at e;cases e
 rcases hs.blk with h0|⟨b,rest,ha,hb,hc,hr⟩
 ·omega
 have hA:((xs.take k).flatMap eJ).length=k*2:=by rw[kA ig,aK,bG hkl]
 have hB:((xs.drop k).flatMap eJ).length=(xs.length-k)*2:=by rw[kA ig,aM]
 have hbv:vb≠b:=fun e=>hvM (e▸hb)
 rw[yk (f:=eJ) xs k]at hc;have hins:(xs.take k++x::xs.drop k).flatMap eJ=(xs.take k).flatMap eJ++(eJ x++(xs.drop k).flatMap eJ):=by rw[bw,aO]
 have hone:=wH (xs.drop k);have hxl:(eJ x).length=2:=rfl;have hx1:cj (eJ x)=true:=rfl;generalize hAe:(xs.take k).flatMap eJ=A at hA hc hins;generalize hBe:(xs.drop k).flatMap eJ=B at hB hc hins hone;generalize eJ x=X at hxr hxl hv hins hx1;rw[ha];have w1:IntKind.wrap .i64 ((xs.length:Int)+((1:Nat):Int))=((xs.length+1:Nat):Int):=by rw[gr (by omega)];omega
 have w2:IntKind.wrap .i64 ((k:Int)+((1:Nat):Int))=((k+1:Nat):Int):=by rw[gr (by omega)];omega
 have w3:IntKind.wrap .i64 (((xs.length+1:Nat):Int)-(k:Int))=((xs.length+1-k:Nat):Int):=by rw[gr (by omega)];omega
 simp only[w1,w2,w3,aJ,hlen];refine ay (fun hgt=>?_) fun hle=>?_
 ·
  have hcl:s.cap=xs.length:=by omega
  refine Join.plain ⟨by omega,⟨by omega,by omega,by omega,by omega⟩,fun hin=>?_,fun hout=>?_⟩
  ·omega
  ·refine⟨A,_,?_,rfl,by omega,Go.growslice_fits hout (by omega),fun nc hnc=>?_⟩
   ·rw[sub_zero]
    exact kU hc (by rw[hA];omega) (by simp only[cR,eT];rw[ar,←hA,fF (al _),bX])
   ·simp only[aJ]at hnc⊢
    have kn:=Upd.hnew No h (A++dK (xs.length+1-k) [.string (⟨#[]⟩:ByteArray),.string (⟨#[]⟩:ByteArray)]++dK (nc-(k-0+(xs.length+1-k))) [.string (⟨#[]⟩:ByteArray),.string (⟨#[]⟩:ByteArray)]) aj;have bn:=bW h (A++dK (xs.length+1-k) [.string (⟨#[]⟩:ByteArray),.string (⟨#[]⟩:ByteArray)]++dK (nc-(k-0+(xs.length+1-k))) [.string (⟨#[]⟩:ByteArray),.string (⟨#[]⟩:ByteArray)]) aj
    have hz1:(dK (xs.length+1-k) [.string (⟨#[]⟩:ByteArray),.string (⟨#[]⟩:ByteArray)]).length=(xs.length+1-k)*2:=lG _ _;have hz2:(dK (nc-(k-0+(xs.length+1-k))) [.string (⟨#[]⟩:ByteArray),.string (⟨#[]⟩:ByteArray)]).length=(nc-(k-0+(xs.length+1-k)))*2:=lG _ _;have hncl:k-0+(xs.length+1-k)=xs.length+1:=by omega
    rw[cM];have hsz:h.size≠vb:=fun e=>by have:=bh hv;omega
    have hszb:h.size≠b:=fun e=>by have:=bh hc;omega
    have hbc:=kn.get0 hc;have hvc:=kn.get0 hv;generalize hnew h _ aj=h9 at kn bn hbc hvc;rw[hncl]at hnc hz2⊢;have m1:dY 1 (xs.length+1-k)=1:=bG (by omega);have m2:dY (xs.length-k) (xs.length+1-(k+1))=xs.length-k:=bG (by omega);rw[m1];have xr9:SRow h9 (some ⟨vb,0,none⟩) (1*2) X:=kU hvc (by rw[hxl]) (by rw[cR,bA];rw[hxl];omega)
    refine⟨by omega,?_⟩;rw[jC (by omega)];refine kJ xr9 hx1 bn (by simp only[ae,hA,hz1];omega) fun h11 hb11 hu11=>⟨by omega,?_⟩
    simp only[Bd];rw[jC (by omega),jC (by omega),m2];refine⟨by omega,?_⟩;have hbc11:=hu11.get hbc (fun e=>hszb e.symm)
    have br:SRow h11 (some ⟨b,0+k*2,none⟩) ((xs.length-k)*2) B:=kU hbc11 hB (by
     rw[aF,ar,←hA,gg,←hB,gX])
    refine kJ br hone hb11 ?_ fun h16 hb16 hu16=>?_
    ·simp only[ae,aK,aM,hA,hz1,hxl];omega
    ·refine hK _ _ ⟨by simp;omega,ig,hnc,.inr ⟨h.size,dK (nc-(xs.length+1)) [.string (⟨#[]⟩:ByteArray),.string (⟨#[]⟩:ByteArray)],rfl,hM _ (al _),?_,by rw[lG];rfl⟩⟩ ((kn.wide.trans (M':=(· =h.size)) hu11 fun b hb=>.inl (hb▸hM _ (al _))).trans (M':=(· =h.size)) hu16 fun b hb=>.inl (hb▸hM _ (al _)))
     rw[hb16,hins];have:=Hr (A:=A) (X:=X) (B:=B) (Z1:=dK (xs.length+1-k) [.string (⟨#[]⟩:ByteArray),.string (⟨#[]⟩:ByteArray)]) (Z2:=dK (nc-(xs.length+1)) [.string (⟨#[]⟩:ByteArray),.string (⟨#[]⟩:ByteArray)]) (r:=(xs.length-k)*2) hA hxl (by rw[hz1,←gn];congr 1;omega);rw[hncl,←this];simp only[aF,gn,qe]
 ·have hcl:xs.length+1≤s.cap:=by omega
  refine⟨by omega,?_⟩;simp only[Bd,eT];rw[sub_zero,jC (show s.cap≠k+1 by omega),jC (show s.cap≠k by omega)]
  refine⟨by omega,?_⟩;have hrl:2≤rest.length:=by rw[hr];exact oY _ (by omega)
  refine Hj hv hc hbv (by rw[dD,ae];omega) ?_;refine au.2 ⟨by omega,by omega,?_⟩
  have m1:dY 1 (xs.length+1-k)=1:=bG (by omega);have m2:dY (xs.length+1-k) (xs.length+1-(k+1))=xs.length-k:=by
   rw[show xs.length+1-(k+1)=xs.length-k by omega];exact pG (by omega)
  rw[m2];have br:SRow h (some ⟨b,0+k*2,none⟩) ((xs.length-k)*2) B:=kU hc hB (by
   rw[aF,ar,←hA,gg,←hB,gX])
  refine kJ br hone hc (by simp only[ae,hA,hB];omega) fun h1 hb1 hu1=>⟨by omega,?_⟩
  rw[m1];have xr1:SRow h1 (some ⟨vb,0,none⟩) (1*2) X:=kU (hu1.get hv hbv) (by rw[hxl]) (by rw[cR,bA];rw[hxl];omega);refine kJ xr1 hx1 hb1 (by simp only[ae,aK,aM,hA,hB];omega) fun h2 hb2 hu2=>?_
  refine hK _ _ ⟨by simp;omega,ig,hcl,.inr ⟨b,rest.drop 2,rfl,hb,?_,?_⟩⟩ ((hu1.mono fun _ e=>.inl (e▸hb)).tr (hu2.mono fun _ e=>.inl (e▸hb)))
  ·rw[hb2,hins]
   have:=LZ (A:=A) (X:=X) (B:=B) (R:=rest) (q:=2) (r:=(xs.length-k)*2) hA hB hrl;rw[←this];simp only[aF,gn,qe]
  ·rw[aM,hr]
   simp only;rw[hlen];omega
abbrev qf(x:Option Addr):List Value:= [.pointer x]
theorem qm(x:Option Addr):(qf x).length=1∧0<1:=⟨rfl,by omega⟩
theorem CE:∀xs:List (Option Addr),cj (xs.flatMap qf)=true
 | []=>rfl
 |x::xs=>by rw[aO];exact ko rfl (CE xs)
theorem Hk{h:ad}{vb b o la ca lb cb:Nat}{cv cw:Array Value}{tv tb:TypeId}(hv:h[vb]? =some (.cells cv tv (0,0))) (hb:h[b]? =some (.cells cw tb (0,0))) (hn:vb≠b) (h0:cw.size≠0) {K:Bool→ad→Prop} (hk:K false h):
  HC PG gT [.slice (some ⟨vb,0,none⟩) la ca,.slice (some ⟨b,o,none⟩) lb cb] [.c .bool] K h:=by
 refine⟨fun w hw=>.inr ⟨.bool false,w,?_,Tame.refl w,false,rfl,hw▸hk⟩⟩
 subst hw;rw[qa];have:=Lib.run_overlaps_apart (P:=PG) w qi sZ bO (by kernel_rfl) (bZ PG bO) (pZ (by kernel_rfl)) ⟨vb,0,none⟩ ⟨b,o,none⟩ la ca lb cb hn tv tb cv.size cw.size
  (by simp[World.shape?,hv]) (by simp[World.shape?,hb]) h0 (by simp[World.frozen?,hv]) (by simp[World.frozen?,hv])
 rw[show([Value.slice (some ⟨vb,0,none⟩) la ca,Value.slice (some ⟨b,o,none⟩) lb cb]:List Value).toArray= #[.slice (some ⟨vb,0,none⟩) la ca,.slice (some ⟨b,o,none⟩) lb cb]from rfl,this]
 rfl
set_option maxRecDepth 4000 in
theorem LY{M:Nat→Prop}{h:ad}{s:SliceV}{xs:List (Option Addr)}(hs:OwnS qf 1 bO M h s xs){k:Nat}(hkl:k≤xs.length)(hn:(xs.length+1)*8≤140737488355328){x:Option Addr}{vb:Nat}(hv:h[vb]? =some (.cells (qf x).toArray bO (0,0)))
  (hvM:¬M vb) (hM:∀b,h.size≤b→M b) {K:SliceV→ad→Prop} (hK:∀s' h',OwnS qf 1 bO M h' s' (xs.take k++x::xs.drop k)→Upd M h h'→K s' h'):
  HC PG cJ [.slice s.a s.len s.cap,.int .i64 k,.slice (some ⟨vb,0,none⟩) 1 1] [.c .slice] K h:=by
 refine kK s k ⟨some ⟨vb,0,none⟩,1,1⟩ ?_;unfold gk;have hlen:=hs.len;have hcap:=hs.cap;have hxr:SRow h (some ⟨vb,0,none⟩) (1*1) (qf x):=⟨rfl,.inr ⟨_,rfl,od hv fun i v hi=>by simpa using hi⟩⟩
 refine⟨by omega,ag.2 ?_⟩;refine CondP.intro (fun e=>?_) fun e=>?_
 ·have e:k=xs.length:=by have:=of_decide_eq_true (by simpa using e:decide ((k:Int)=(s.len:Int))=true);omega
  subst e;refine⟨_,hxr,AppP.own (ys:= [x]) hs rfl (by simp) rfl rfl (by omega) (by simp;omega) (hM _ (al _)) fun s' h' ho hu=>hK s' h' ?_ hu⟩
  rw[bX,pI];exact ho
 have hlt:k<xs.length:=by
  rcases bE k xs.length with h|h
  ·exact h
  ·have:((k:Int)==(s.len:Int))=true:=by rw[beq_iff_eq];omega
   rw[this]at e;cases e
 rcases hs.blk with h0|⟨b,rest,ha,hb,hc,hr⟩
 ·omega
 have hA:((xs.take k).flatMap qf).length=k*1:=by rw[kA qm,aK,bG hkl]
 have hB:((xs.drop k).flatMap qf).length=(xs.length-k)*1:=by rw[kA qm,aM]
 have hbv:vb≠b:=fun e=>hvM (e▸hb)
 rw[yk (f:=qf) xs k]at hc;have hins:(xs.take k++x::xs.drop k).flatMap qf=(xs.take k).flatMap qf++(qf x++(xs.drop k).flatMap qf):=by rw[bw,aO]
 have hone:=CE (xs.drop k);have hxl:(qf x).length=1:=rfl;have hx1:cj (qf x)=true:=rfl;generalize hAe:(xs.take k).flatMap qf=A at hA hc hins;generalize hBe:(xs.drop k).flatMap qf=B at hB hc hins hone;generalize qf x=X at hxr hxl hv hins hx1;rw[ha];have w1:IntKind.wrap .i64 ((xs.length:Int)+((1:Nat):Int))=((xs.length+1:Nat):Int):=by rw[gr (by omega)];omega
 have w2:IntKind.wrap .i64 ((k:Int)+((1:Nat):Int))=((k+1:Nat):Int):=by rw[gr (by omega)];omega
 have w3:IntKind.wrap .i64 (((xs.length+1:Nat):Int)-(k:Int))=((xs.length+1-k:Nat):Int):=by rw[gr (by omega)];omega
 simp only[w1,w2,w3,aJ,hlen];refine ay (fun hgt=>?_) fun hle=>?_
 ·
  have hcl:s.cap=xs.length:=by omega
  refine Join.plain ⟨by omega,⟨by omega,by omega,by omega,by omega⟩,fun hin=>?_,fun hout=>?_⟩
  ·omega
  ·refine⟨A,_,?_,rfl,by omega,Go.growslice_fits hout (by omega),fun nc hnc=>?_⟩
   ·rw[sub_zero]
    exact kU hc (by rw[hA];omega) (by simp only[cR,eT];rw[ar,←hA,fF (al _),bX])
   ·simp only[aJ]at hnc⊢
    have kn:=Upd.hnew No h (A++dK (xs.length+1-k) [.pointer none]++dK (nc-(k-0+(xs.length+1-k))) [.pointer none]) bO;have bn:=bW h (A++dK (xs.length+1-k) [.pointer none]++dK (nc-(k-0+(xs.length+1-k))) [.pointer none]) bO;have hz1:(dK (xs.length+1-k) [.pointer none]).length=(xs.length+1-k)*1:=lG _ _;have hz2:(dK (nc-(k-0+(xs.length+1-k))) [.pointer none]).length=(nc-(k-0+(xs.length+1-k)))*1:=lG _ _
    have hncl:k-0+(xs.length+1-k)=xs.length+1:=by omega
    rw[cM];have hsz:h.size≠vb:=fun e=>by have:=bh hv;omega
    have hszb:h.size≠b:=fun e=>by have:=bh hc;omega
    have hbc:=kn.get0 hc;have hvc:=kn.get0 hv;generalize hnew h _ bO=h9 at kn bn hbc hvc;rw[hncl]at hnc hz2⊢;have m1:dY 1 (xs.length+1-k)=1:=bG (by omega);have m2:dY (xs.length-k) (xs.length+1-(k+1))=xs.length-k:=bG (by omega);rw[m1];have xr9:SRow h9 (some ⟨vb,0,none⟩) (1*1) X:=kU hvc (by rw[hxl]) (by rw[cR,bA];rw[hxl];omega)
    refine⟨by omega,?_⟩;rw[jC (by omega)];refine kJ xr9 hx1 bn (by simp only[ae,hA,hz1];omega) fun h11 hb11 hu11=>⟨by omega,?_⟩
    simp only[Bd];rw[jC (by omega),jC (by omega),m2];refine⟨by omega,?_⟩;have hbc11:=hu11.get hbc (fun e=>hszb e.symm)
    have br:SRow h11 (some ⟨b,0+k*1,none⟩) ((xs.length-k)*1) B:=kU hbc11 hB (by
     rw[aF,ar,←hA,gg,←hB,gX])
    refine kJ br hone hb11 ?_ fun h16 hb16 hu16=>?_
    ·simp only[ae,aK,aM,hA,hz1,hxl];omega
    ·refine hK _ _ ⟨by simp;omega,qm,hnc,.inr ⟨h.size,dK (nc-(xs.length+1)) [.pointer none],rfl,hM _ (al _),?_,by rw[lG];rfl⟩⟩ ((kn.wide.trans (M':=(· =h.size)) hu11 fun b hb=>.inl (hb▸hM _ (al _))).trans (M':=(· =h.size)) hu16 fun b hb=>.inl (hb▸hM _ (al _)))
     rw[hb16,hins];have:=Hr (A:=A) (X:=X) (B:=B) (Z1:=dK (xs.length+1-k) [.pointer none]) (Z2:=dK (nc-(xs.length+1)) [.pointer none]) (r:=(xs.length-k)*1) hA hxl (by rw[hz1,←gn];congr 1;omega);rw[hncl,←this];simp only[aF,gn,qe]
 ·have hcl:xs.length+1≤s.cap:=by omega
  refine⟨by omega,?_⟩;simp only[Bd,eT];rw[sub_zero,jC (show s.cap≠k+1 by omega),jC (show s.cap≠k by omega)]
  refine⟨by omega,?_⟩;have hrl:1≤rest.length:=by rw[hr];exact oY _ (by omega)
  refine Hk hv hc hbv (by rw[dD,ae];omega) ?_;refine au.2 ⟨by omega,by omega,?_⟩
  have m1:dY 1 (xs.length+1-k)=1:=bG (by omega);have m2:dY (xs.length+1-k) (xs.length+1-(k+1))=xs.length-k:=by
   rw[show xs.length+1-(k+1)=xs.length-k by omega];exact pG (by omega)
  rw[m2];have br:SRow h (some ⟨b,0+k*1,none⟩) ((xs.length-k)*1) B:=kU hc hB (by
   rw[aF,ar,←hA,gg,←hB,gX])
  refine kJ br hone hc (by simp only[ae,hA,hB];omega) fun h1 hb1 hu1=>⟨by omega,?_⟩
  rw[m1];have xr1:SRow h1 (some ⟨vb,0,none⟩) (1*1) X:=kU (hu1.get hv hbv) (by rw[hxl]) (by rw[cR,bA];rw[hxl];omega);refine kJ xr1 hx1 hb1 (by simp only[ae,aK,aM,hA,hB];omega) fun h2 hb2 hu2=>?_
  refine hK _ _ ⟨by simp;omega,qm,hcl,.inr ⟨b,rest.drop 1,rfl,hb,?_,?_⟩⟩ ((hu1.mono fun _ e=>.inl (e▸hb)).tr (hu2.mono fun _ e=>.inl (e▸hb)))
  ·rw[hb2,hins]
   have:=LZ (A:=A) (X:=X) (B:=B) (R:=rest) (q:=1) (r:=(xs.length-k)*1) hA hB hrl;rw[←this];simp only[aF,gn,qe]
  ·rw[aM,hr]
   simp only;rw[hlen];omega
abbrev qB(x:Option Addr):List Value:= [.pointer x]
theorem nr(x:Option Addr):(qB x).length=1∧0<1:=⟨rfl,by omega⟩
theorem CD:∀xs:List (Option Addr),cj (xs.flatMap qB)=true
 | []=>rfl
 |x::xs=>by rw[aO];exact ko rfl (CD xs)
theorem Hi{h:ad}{vb b o la ca lb cb:Nat}{cv cw:Array Value}{tv tb:TypeId}(hv:h[vb]? =some (.cells cv tv (0,0))) (hb:h[b]? =some (.cells cw tb (0,0))) (hn:vb≠b) (h0:cw.size≠0) {K:Bool→ad→Prop} (hk:K false h):
  HC PG gD [.slice (some ⟨vb,0,none⟩) la ca,.slice (some ⟨b,o,none⟩) lb cb] [.c .bool] K h:=by
 refine⟨fun w hw=>.inr ⟨.bool false,w,?_,Tame.refl w,false,rfl,hw▸hk⟩⟩
 subst hw;rw[pC];have:=Lib.run_overlaps_apart (P:=PG) w po sZ bI (by kernel_rfl) (bZ PG bI) (pZ (by kernel_rfl)) ⟨vb,0,none⟩ ⟨b,o,none⟩ la ca lb cb hn tv tb cv.size cw.size
  (by simp[World.shape?,hv]) (by simp[World.shape?,hb]) h0 (by simp[World.frozen?,hv]) (by simp[World.frozen?,hv])
 rw[show([Value.slice (some ⟨vb,0,none⟩) la ca,Value.slice (some ⟨b,o,none⟩) lb cb]:List Value).toArray= #[.slice (some ⟨vb,0,none⟩) la ca,.slice (some ⟨b,o,none⟩) lb cb]from rfl,this]
 rfl
set_option maxRecDepth 4000 in
theorem LW{M:Nat→Prop}{h:ad}{s:SliceV}{xs:List (Option Addr)}(hs:OwnS qB 1 bI M h s xs){k:Nat}(hkl:k≤xs.length)(hn:(xs.length+1)*8≤140737488355328){x:Option Addr}{vb:Nat}(hv:h[vb]? =some (.cells (qB x).toArray bI (0,0)))
  (hvM:¬M vb) (hM:∀b,h.size≤b→M b) {K:SliceV→ad→Prop} (hK:∀s' h',OwnS qB 1 bI M h' s' (xs.take k++x::xs.drop k)→Upd M h h'→K s' h'):
  HC PG eA [.slice s.a s.len s.cap,.int .i64 k,.slice (some ⟨vb,0,none⟩) 1 1] [.c .slice] K h:=by
 refine jY s k ⟨some ⟨vb,0,none⟩,1,1⟩ ?_;unfold f6;have hlen:=hs.len;have hcap:=hs.cap;have hxr:SRow h (some ⟨vb,0,none⟩) (1*1) (qB x):=⟨rfl,.inr ⟨_,rfl,od hv fun i v hi=>by simpa using hi⟩⟩
 refine⟨by omega,ag.2 ?_⟩;refine CondP.intro (fun e=>?_) fun e=>?_
 ·have e:k=xs.length:=by have:=of_decide_eq_true (by simpa using e:decide ((k:Int)=(s.len:Int))=true);omega
  subst e;refine⟨_,hxr,AppP.own (ys:= [x]) hs rfl (by simp) rfl rfl (by omega) (by simp;omega) (hM _ (al _)) fun s' h' ho hu=>hK s' h' ?_ hu⟩
  rw[bX,pI];exact ho
 have hlt:k<xs.length:=by
  rcases bE k xs.length with h|h
  ·exact h
  ·have:((k:Int)==(s.len:Int))=true:=by rw[beq_iff_eq];omega
   rw[this]at e;cases e
 rcases hs.blk with h0|⟨b,rest,ha,hb,hc,hr⟩
 ·omega
 have hA:((xs.take k).flatMap qB).length=k*1:=by rw[kA nr,aK,bG hkl]
 have hB:((xs.drop k).flatMap qB).length=(xs.length-k)*1:=by rw[kA nr,aM]
 have hbv:vb≠b:=fun e=>hvM (e▸hb)
 rw[yk (f:=qB) xs k]at hc;have hins:(xs.take k++x::xs.drop k).flatMap qB=(xs.take k).flatMap qB++(qB x++(xs.drop k).flatMap qB):=by rw[bw,aO]
 have hone:=CD (xs.drop k);have hxl:(qB x).length=1:=rfl;have hx1:cj (qB x)=true:=rfl;generalize hAe:(xs.take k).flatMap qB=A at hA hc hins;generalize hBe:(xs.drop k).flatMap qB=B at hB hc hins hone;generalize qB x=X at hxr hxl hv hins hx1;rw[ha];have w1:IntKind.wrap .i64 ((xs.length:Int)+((1:Nat):Int))=((xs.length+1:Nat):Int):=by rw[gr (by omega)];omega
 have w2:IntKind.wrap .i64 ((k:Int)+((1:Nat):Int))=((k+1:Nat):Int):=by rw[gr (by omega)];omega
 have w3:IntKind.wrap .i64 (((xs.length+1:Nat):Int)-(k:Int))=((xs.length+1-k:Nat):Int):=by rw[gr (by omega)];omega
 simp only[w1,w2,w3,aJ,hlen];refine ay (fun hgt=>?_) fun hle=>?_
 ·
  have hcl:s.cap=xs.length:=by omega
  refine Join.plain ⟨by omega,⟨by omega,by omega,by omega,by omega⟩,fun hin=>?_,fun hout=>?_⟩
  ·omega
  ·refine⟨A,_,?_,rfl,by omega,Go.growslice_fits hout (by omega),fun nc hnc=>?_⟩
   ·rw[sub_zero]
    exact kU hc (by rw[hA];omega) (by simp only[cR,eT];rw[ar,←hA,fF (al _),bX])
   ·simp only[aJ]at hnc⊢
    have kn:=Upd.hnew No h (A++dK (xs.length+1-k) [.pointer none]++dK (nc-(k-0+(xs.length+1-k))) [.pointer none]) bI;have bn:=bW h (A++dK (xs.length+1-k) [.pointer none]++dK (nc-(k-0+(xs.length+1-k))) [.pointer none]) bI;have hz1:(dK (xs.length+1-k) [.pointer none]).length=(xs.length+1-k)*1:=lG _ _;have hz2:(dK (nc-(k-0+(xs.length+1-k))) [.pointer none]).length=(nc-(k-0+(xs.length+1-k)))*1:=lG _ _
    have hncl:k-0+(xs.length+1-k)=xs.length+1:=by omega
    rw[cM];have hsz:h.size≠vb:=fun e=>by have:=bh hv;omega
    have hszb:h.size≠b:=fun e=>by have:=bh hc;omega
    have hbc:=kn.get0 hc;have hvc:=kn.get0 hv;generalize hnew h _ bI=h9 at kn bn hbc hvc;rw[hncl]at hnc hz2⊢;have m1:dY 1 (xs.length+1-k)=1:=bG (by omega);have m2:dY (xs.length-k) (xs.length+1-(k+1))=xs.length-k:=bG (by omega);rw[m1];have xr9:SRow h9 (some ⟨vb,0,none⟩) (1*1) X:=kU hvc (by rw[hxl]) (by rw[cR,bA];rw[hxl];omega)
    refine⟨by omega,?_⟩;rw[jC (by omega)];refine kJ xr9 hx1 bn (by simp only[ae,hA,hz1];omega) fun h11 hb11 hu11=>⟨by omega,?_⟩
    simp only[Bd];rw[jC (by omega),jC (by omega),m2];refine⟨by omega,?_⟩;have hbc11:=hu11.get hbc (fun e=>hszb e.symm)
    have br:SRow h11 (some ⟨b,0+k*1,none⟩) ((xs.length-k)*1) B:=kU hbc11 hB (by
     rw[aF,ar,←hA,gg,←hB,gX])
    refine kJ br hone hb11 ?_ fun h16 hb16 hu16=>?_
    ·simp only[ae,aK,aM,hA,hz1,hxl];omega
    ·refine hK _ _ ⟨by simp;omega,nr,hnc,.inr ⟨h.size,dK (nc-(xs.length+1)) [.pointer none],rfl,hM _ (al _),?_,by rw[lG];rfl⟩⟩ ((kn.wide.trans (M':=(· =h.size)) hu11 fun b hb=>.inl (hb▸hM _ (al _))).trans (M':=(· =h.size)) hu16 fun b hb=>.inl (hb▸hM _ (al _)))
     rw[hb16,hins];have:=Hr (A:=A) (X:=X) (B:=B) (Z1:=dK (xs.length+1-k) [.pointer none]) (Z2:=dK (nc-(xs.length+1)) [.pointer none]) (r:=(xs.length-k)*1) hA hxl (by rw[hz1,←gn];congr 1;omega);rw[hncl,←this];simp only[aF,gn,qe]
 ·have hcl:xs.length+1≤s.cap:=by omega
  refine⟨by omega,?_⟩;simp only[Bd,eT];rw[sub_zero,jC (show s.cap≠k+1 by omega),jC (show s.cap≠k by omega)]
  refine⟨by omega,?_⟩;have hrl:1≤rest.length:=by rw[hr];exact oY _ (by omega)
  refine Hi hv hc hbv (by rw[dD,ae];omega) ?_;refine au.2 ⟨by omega,by omega,?_⟩
  have m1:dY 1 (xs.length+1-k)=1:=bG (by omega);have m2:dY (xs.length+1-k) (xs.length+1-(k+1))=xs.length-k:=by
   rw[show xs.length+1-(k+1)=xs.length-k by omega];exact pG (by omega)
  rw[m2];have br:SRow h (some ⟨b,0+k*1,none⟩) ((xs.length-k)*1) B:=kU hc hB (by
   rw[aF,ar,←hA,gg,←hB,gX])
  refine kJ br hone hc (by simp only[ae,hA,hB];omega) fun h1 hb1 hu1=>⟨by omega,?_⟩
  rw[m1];have xr1:SRow h1 (some ⟨vb,0,none⟩) (1*1) X:=kU (hu1.get hv hbv) (by rw[hxl]) (by rw[cR,bA];rw[hxl];omega);refine kJ xr1 hx1 hb1 (by simp only[ae,aK,aM,hA,hB];omega) fun h2 hb2 hu2=>?_
  refine hK _ _ ⟨by simp;omega,nr,hcl,.inr ⟨b,rest.drop 1,rfl,hb,?_,?_⟩⟩ ((hu1.mono fun _ e=>.inl (e▸hb)).tr (hu2.mono fun _ e=>.inl (e▸hb)))
  ·rw[hb2,hins]
   have:=LZ (A:=A) (X:=X) (B:=B) (R:=rest) (q:=1) (r:=(xs.length-k)*1) hA hB hrl;rw[←this];simp only[aF,gn,qe]
  ·rw[aM,hr]
   simp only;rw[hlen];omega
end Go.Proofs
