/- A part of the proof that the named laws of this program answer true, whatever the input. -/
import Derived.Test.YtncppacbfagpgaaGreatDoorTreeF0
import Derived.Test.YtncppacbfagpgaaGreatDoorTreeF1
import Derived.Test.YtncppacbfagpgaaGreatDoorTreeF2
import Derived.Test.YtncppacbfagpgaaGreatDoorLaw0
import Derived.Test.YtncppacbfagpgaaGreatDoorLift3
import Derived.Lib.Overlaps
open BitVec renaming ofInt→aj
open ByteArray renaming size_extract→fc
open Int renaming toNat_natCast→aP
open List renaming length_append→ac,filter_append→gr,mem_filter→ey,append_nil→aW,nil_append→dM,mem_cons_self→ar,pairwise_append→ci,append_assoc→aq,mem_singleton→aB,pairwise_cons→aX,mem_cons→aA,mem_append→bV,length_eq_zero_iff→aH,mem_cons_of_mem→aL,append_eq_nil_iff→j3,append_cancel_left→gR,length→dT,getElem_of_mem→cx,length_take→aK,length_drop→aS,take_append_drop→aF,length_set→g5,getElem_mem→bI,pairwise_iff_getElem→cX,take_succ_cons→dI,drop_succ_cons→ju,flatMap_cons→aO,take_length→bW,drop_length→oM,flatMap_append→bm,drop_zero→dE,take_append_of_le_length→fi,take_of_length_le→bw,drop_left→iC,take_left→iB,size_toArray→dB
open List.Pairwise renaming nil→cE
open Nat renaming zero_le→aR,lt_or_ge→bN,zero_add→aD,le_refl→ao,min_eq_left→bA,sub_zero→fz,min→dW,add_one_mul→f9,one_mul→pq,le_mul_of_pos_left→nY,min_eq_right→jF
open Option renaming isSome_iff_exists→gw,some→bH
open UInt8 renaming toNat_inj→km
namespace Go.Proofs
structure WO{α:Type}(lt:α→α→Bool):Prop where
 irr:∀a,lt a a=false
 asy:∀a b,lt a b=true→lt b a=false
 ntr:∀a b c,lt a b=false→lt b c=false→lt a c=false
section
variable {α:Type} {lt:α→α→Bool}
def HK(lt:α→α→Bool)(x a:α):Bool:= !lt a x&& !lt x a
def Srt(lt:α→α→Bool)(l:List α):Prop:=l.Pairwise fun a b=>lt b a=false
structure Eqf(lt:α→α→Bool)(l l':List α):Prop where
 len:l'.length=l.length
 flt:∀x,l'.filter (HK lt x)=l.filter (HK lt x)
structure St(lt:α→α→Bool)(l l':List α):Prop where
 eqf:Eqf lt l l'
 srt:Srt lt l'
theorem Eqf.rfl(l:List α):Eqf lt l l:=⟨_root_.rfl,fun _=>_root_.rfl⟩
theorem Eqf.tr{a b c:List α}(h:Eqf lt a b)(k:Eqf lt b c):Eqf lt a c:=⟨k.len.trans h.len,fun x=>(k.flt x).trans (h.flt x)⟩
theorem Eqf.app{a b a' b':List α}(h:Eqf lt a a')(k:Eqf lt b b'):Eqf lt (a++b) (a'++b'):=
 ⟨by rw[ac,ac,h.len,k.len],fun x=>by rw[gr,gr,h.flt,k.flt]⟩
theorem Hc(w:WO lt)(a:α):HK lt a a=true:=by unfold HK;rw[w.irr];rfl
theorem Eqf.mem(w:WO lt){l l':List α}(h:Eqf lt l l'){a:α}:a∈l'↔a∈l:=by
 have e:=h.flt a;constructor
 ·intro hm
  have:a∈l'.filter (HK lt a):=ey.2 ⟨hm,Hc w a⟩;rw[e]at this;exact(ey.1 this).1
 ·intro hm
  have:a∈l.filter (HK lt a):=ey.2 ⟨hm,Hc w a⟩;rw[←e]at this;exact(ey.1 this).1
theorem Ph(w:WO lt){x u v:α}(hu:HK lt x u=true)(hv:HK lt x v=true):lt v u=false:=by
 unfold HK at hu hv;simp only[Bool.and_eq_true,Bool.not_eq_true']at hu hv;exact w.ntr v x u hv.1 hu.2
theorem Eqf.swap(w:WO lt){U V:List α}(h:∀u∈U,∀v∈V,lt v u=true):Eqf lt (U++V) (V++U):=by
 refine⟨by rw[ac,ac,Nat.add_comm],fun x=>?_⟩
 rw[gr,gr];cases hU:U.filter (HK lt x)with
 |nil=>rw[aW,dM]
 |cons u us=>
  cases hV:V.filter (HK lt x)with
  |nil=>rw[aW,dM]
  |cons v vs=>
   have hu:u∈U.filter (HK lt x):=by rw[hU];exact ar ..
   have hv:v∈V.filter (HK lt x):=by rw[hV];exact ar ..
   have h1:=ey.1 hu;have h2:=ey.1 hv;have h3:=h u h1.1 v h2.1;rw[Ph w h1.2 h2.2]at h3;cases h3
theorem Srt.app{a b:List α}(h:Srt lt a)(k:Srt lt b)(hab:∀x∈a,∀y∈b,lt y x=false):Srt lt (a++b):=ci.2 ⟨h,k,hab⟩
theorem Srt.left{a b:List α}(h:Srt lt (a++b)):Srt lt a:=(ci.1 h).1
theorem Srt.right{a b:List α}(h:Srt lt (a++b)):Srt lt b:=(ci.1 h).2.1
theorem Srt.cross{a b:List α}(h:Srt lt (a++b)):∀x∈a,∀y∈b,lt y x=false:=(ci.1 h).2.2
theorem Srt.nil:Srt lt ([]:List α):=cE
theorem Srt.one(a:α):Srt lt [a]:=List.pairwise_singleton ..
theorem MU(w:WO lt){S L G:List α}{t:α}(h:St lt S (L++G))(hL:∀l∈L,lt t l=false)(hG:∀g∈G,lt t g=true):St lt (S++ [t]) (L++t::G):=by
 refine⟨(h.eqf.app (Eqf.rfl [t])).tr ?_,?_⟩
 ·rw[aq]
  exact(Eqf.rfl L).app (Eqf.swap w (U:=G) (V:= [t]) fun u hu v hv=>by rw[aB.1 hv];exact hG u hu)
 ·refine h.srt.left.app (aX.2 ⟨fun g hg=>w.asy t g (hG g hg),h.srt.right⟩) fun x hx y hy=>?_
  rcases aA.1 hy with rfl|hy
  ·exact hL x hx
  ·exact h.srt.cross x hx y hy
theorem EL(w:WO lt){V1 V2:List α}{u:α}(h:Srt lt (V1++V2))(h1:∀v∈V1,lt v u=true)(h2:∀v∈V2,lt v u=false):St lt ([u]++(V1++V2)) (V1++u::V2):=by
 refine⟨?_,?_⟩
 ·rw[←aq]
  have:=(Eqf.swap w (U:= [u]) (V:=V1) fun x hx y hy=>by rw[aB.1 hx];exact h1 y hy).app (Eqf.rfl V2)
  rw[aq V1]at this;exact this
 ·refine h.left.app (aX.2 ⟨h2,h.right⟩) fun x hx y hy=>?_
  rcases aA.1 hy with rfl|hy
  ·exact w.asy x y (h1 x hx)
  ·exact h.cross x hx y hy
theorem Ge(w:WO lt){U1 U2:List α}{v:α}(h:Srt lt (U1++U2))(h1:∀u∈U1,lt v u=false)(h2:∀u∈U2,lt v u=true):St lt ((U1++U2)++ [v]) (U1++v::U2):=
 MU w ⟨Eqf.rfl _,h⟩ h1 h2
theorem Ln(w:WO lt){U1 U2 V1 V2 R1 R2:List α}(hU:Srt lt (U1++U2))(hV:Srt lt (V1++V2))(h1:∀v∈V1,∀u∈U2,lt v u=true)(h2:∀u∈U1,∀v∈V2,lt v u=false)(s1:St lt (U1++V1) R1)(s2:St lt (U2++V2) R2):St lt ((U1++U2)++(V1++V2)) (R1++R2):=by
 refine⟨?_,s1.srt.app s2.srt fun x hx y hy=>?_⟩
 ·have e:Eqf lt ((U1++U2)++(V1++V2)) ((U1++V1)++(U2++V2)):=by
   have:=((Eqf.rfl U1).app (Eqf.swap w (U:=U2) (V:=V1) fun u hu v hv=>h1 v hv u hu)).app (Eqf.rfl (lt:=lt) V2)
   simp only[aq]at this⊢;exact this
  exact e.tr (s1.eqf.app s2.eqf)
 ·rcases bV.1 ((s1.eqf.mem w).1 hx)with hx|hx<;>rcases bV.1 ((s2.eqf.mem w).1 hy)with hy|hy
  ·exact hU.cross x hx y hy
  ·exact h2 x hx y hy
  ·exact w.asy x y (h1 x hx y hy)
  ·exact hV.cross x hx y hy
inductive Runs(lt:α→α→Bool)(bs:Nat):List α→Prop where
 |last (l:List α):l.length≤bs→Srt lt l→Runs lt bs l
 |more (b l:List α):b.length=bs→Srt lt b→Runs lt bs l→Runs lt bs (b++l)
theorem Runs.split{bs:Nat}{l:List α}(h:Runs lt bs l)(hl:bs≤l.length):∃b r,l=b++r∧b.length=bs∧Srt lt b∧Runs lt bs r:=by
 cases h with
 |last _ h1 h2=>exact⟨l,[],(aW l).symm,by omega,h2,.last _ (aR _) Srt.nil⟩
 |more b r h1 h2 h3=>exact⟨b,r,_root_.rfl,h1,h2,h3⟩
theorem Runs.short{bs:Nat}{l:List α}(h:Runs lt bs l)(hl:l.length≤bs):Srt lt l:=by
 cases h with
 |last _ h1 h2=>exact h2
 |more b r h1 h2 h3=>
  rw[ac]at hl;have:r= []:=aH.1 (by omega);rw[this,aW];exact h2
def Full(lt:α→α→Bool)(bs:Nat)(d:List α):Prop:=∀z,Runs lt bs z→Runs lt bs (d++z)
theorem Full.nil{bs:Nat}:Full lt bs ([]:List α):=fun _ h=>h
theorem Full.app{bs:Nat}{d b:List α}(h:Full lt bs d)(hb:b.length=bs)(hs:Srt lt b):Full lt bs (d++b):=fun z hz=>by
 rw[aq];exact h _ (.more b z hb hs hz)
end
end Go.Proofs
namespace Go.Proofs
inductive Fo where
 |nil:Fo
 |cons (lab:List UInt8) (val:Option ByteArray) (kids rest:Fo):Fo
abbrev Bn:=List UInt8×Option ByteArray×Fo
def Fo.toL:Fo→List Bn
 | .nil=> []
 | .cons lab w kids rest=>(lab,w,kids)::rest.toL
theorem Fo.toL_cons(lab:List UInt8)(w:Option ByteArray)(kids rest:Fo):(Fo.cons lab w kids rest).toL=(lab,w,kids)::rest.toL:=rfl
def Fo.ofL:List Bn→Fo
 | []=>.nil
 |(lab,w,kids)::l=>.cons lab w kids (Fo.ofL l)
theorem Fo.to_of:∀l:List Bn,(Fo.ofL l).toL=l
 | []=>rfl
 |(_,_,_)::l=>by show _::(Fo.ofL l).toL=_;rw[Fo.to_of l]
theorem Fo.of_to:∀F:Fo,Fo.ofL F.toL=F
 | .nil=>rfl
 | .cons lab w kids rest=>by show Fo.cons lab w kids (Fo.ofL rest.toL)=_;rw[Fo.of_to rest]
def tE:Fo→List UInt8→ByteArray→Prop
 | .nil,_,_=>False
 | .cons lab w kids rest,k,v=>(∃r,k=lab++r∧((r= []∧w=some v)∨tE kids r v))∨tE rest k v
def uN(w:Option ByteArray)(F:Fo)(k:List UInt8)(v:ByteArray):Prop:=(k= []∧w=some v)∨tE F k v
def xp(n:Bn)(k:List UInt8)(v:ByteArray):Prop:=∃r,k=n.1++r∧uN n.2.1 n.2.2 r v
theorem iH:∀{F:Fo} {k:List UInt8} {v:ByteArray},tE F k v↔∃n∈F.toL,xp n k v
 | .nil,_,_=>by simp[tE,Fo.toL]
 | .cons lab w kids rest,k,v=>by
  rw[Fo.toL_cons];unfold tE;rw[iH (F:=rest)];constructor
  ·rintro(h|⟨n,hn,h⟩)
   ·exact⟨_,ar ..,h⟩
   ·exact⟨n,aL _ hn,h⟩
  ·rintro⟨n,hn,h⟩
   rcases aA.1 hn with rfl|hn
   ·exact .inl h
   ·exact .inr ⟨n,hn,h⟩
def hd(k:List UInt8):Nat:=(k.headD 0).toNat
theorem qi{a b:List UInt8}(h:a≠[]):hd (a++b)=hd a:=by
 cases a with
 |nil=>exact absurd rfl h
 |cons x a=>rfl
theorem PK(a:List UInt8):hd a<256:=UInt8.toNat_lt _
def gi:Fo→Prop
 | .nil=>True
 | .cons lab w kids rest=>lab≠[]∧(w.isSome∨2≤kids.toL.length)∧gi kids∧(∀n∈rest.toL,hd lab<hd n.1)∧gi rest
def Mg(n:Bn):Prop:=n.1≠[]∧(n.2.1.isSome∨2≤n.2.2.toL.length)∧gi n.2.2
theorem gf:∀{F:Fo},gi F↔F.toL.Pairwise (fun m n=>hd m.1<hd n.1)∧∀n∈F.toL,Mg n
 | .nil=>by simp[gi,Fo.toL]
 | .cons lab w kids rest=>by
  rw[Fo.toL_cons,aX];show(lab≠[]∧(w.isSome∨2≤kids.toL.length)∧gi kids∧(∀n∈rest.toL,hd lab<hd n.1)∧gi rest)↔_
  rw[gf (F:=rest)];constructor
  ·rintro⟨h1,h2,h3,h4,h5,h6⟩
   refine⟨⟨h4,h5⟩,fun n hn=>?_⟩
   rcases aA.1 hn with rfl|hn
   ·exact⟨h1,h2,h3⟩
   ·exact h6 n hn
  ·rintro⟨⟨h4,h5⟩,h6⟩
   have:=h6 _ (ar ..);exact⟨this.1,this.2.1,this.2.2,h4,h5,fun n hn=>h6 n (aL _ hn)⟩
theorem nA:∀{F:Fo},gi F→∀n∈F.toL,∃r v,uN n.2.1 n.2.2 r v
 | .nil,_,n,hn=>by simp[Fo.toL]at hn
 | .cons lab w kids rest,h,n,hn=>by
  rcases aA.1 hn with rfl|hn
  ·rcases h.2.1 with hw|hk
   ·obtain⟨v,hv⟩:=gw.1 hw
    exact⟨[],v,.inl ⟨rfl,hv⟩⟩
   ·have ih:=nA h.2.2.1
    have⟨m,hm⟩:∃m,m∈kids.toL:=by
     cases hl:kids.toL with
     |nil=>rw[hl]at hk;simp at hk
     |cons m l=>exact⟨m,ar ..⟩
    obtain⟨r,v,hr⟩:=ih m hm;exact⟨m.1++r,v,.inr (iH.2 ⟨m,hm,r,rfl,hr⟩)⟩
  ·exact nA h.2.2.2.2 n hn
theorem pA{F:Fo}(h:gi F){k:List UInt8}{v:ByteArray}(hi:tE F k v):k≠[]:=by
 obtain⟨n,hn,r,rfl,_⟩:=iH.1 hi;have:=((gf.1 h).2 n hn).1;intro e;exact this (j3.1 e).1
theorem sR{F:Fo}(h:gi F){k:List UInt8}{v:ByteArray}(hi:tE F k v):∃n∈F.toL,hd n.1=hd k∧xp n k v:=by
 obtain⟨n,hn,r,e,hr⟩:=iH.1 hi;exact⟨n,hn,by rw[e,qi ((gf.1 h).2 n hn).1],r,e,hr⟩
theorem Fp{F:Fo}(h:gi F){m n:Bn}(hm:m∈F.toL)(hn:n∈F.toL)(e:hd m.1=hd n.1):m=n:=by
 have hp:=(gf.1 h).1;revert hm hn;generalize F.toL=l at*;clear h;induction l with
 |nil=>intro hm;simp at hm
 |cons a l ih=>
  have hp:=aX.1 hp;intro hm hn;rcases aA.1 hm with e1|hm1
  ·rcases aA.1 hn with e2|hn1
   ·rw[e1,e2]
   ·have:=hp.1 n hn1;rw[←e1]at this;omega
  ·rcases aA.1 hn with e2|hn1
   ·have:=hp.1 m hm1;rw[←e2]at this;omega
   ·exact ih hp.2 hm1 hn1
def Br(P:List UInt8→ByteArray→Prop):Prop:=(∃v,P [] v)∨∃j k u v,P j u∧P k v∧j≠[]∧k≠[]∧hd j≠hd k
theorem Cl{w:Option ByteArray}{F:Fo}(h:gi F):(w.isSome∨2≤F.toL.length)↔Br (uN w F):=by
 constructor
 ·rintro(hw|hl)
  ·obtain⟨v,hv⟩:=gw.1 hw
   exact .inl ⟨v,.inl ⟨rfl,hv⟩⟩
  ·right
   have hs:=nA h;have hc:=gf.1 h;match hL:F.toL,hl with
   |a::b::l,_=>
    have ha:a∈F.toL:=by rw[hL];simp
    have hb:b∈F.toL:=by rw[hL];simp
    obtain⟨r,v,hr⟩:=hs a ha;obtain⟨s,u,hs⟩:=hs b hb;have h1:=(hc.2 a ha).1;have h2:=(hc.2 b hb).1;have:=hc.1;rw[hL]at this;have h3:=(aX.1 this).1 b (ar ..);refine⟨a.1++r,b.1++s,v,u,.inr (iH.2 ⟨a,ha,r,rfl,hr⟩),.inr (iH.2 ⟨b,hb,s,rfl,hs⟩),?_,?_,?_⟩
    ·intro e;exact h1 (j3.1 e).1
    ·intro e;exact h2 (j3.1 e).1
    ·rw[qi h1,qi h2];omega
 ·rintro(⟨v,hv⟩|⟨j,k,u,v,hj,hk,nj,nk,hne⟩)
  ·rcases hv with⟨_,hv⟩|hv
   ·left;rw[hv];rfl
   ·exact absurd rfl (pA h hv)
  ·right
   rcases hj with⟨e,_⟩|hj
   ·exact absurd e nj
   rcases hk with⟨e,_⟩|hk
   ·exact absurd e nk
   obtain⟨m,hm,em,_⟩:=sR h hj;obtain⟨n,hn,en,_⟩:=sR h hk;match hL:F.toL with
   | []=>rw[hL]at hm;simp at hm
   | [a]=>
    rw[hL]at hm hn;rw[aB.1 hm]at em;rw[aB.1 hn]at en;omega
   |a::b::l=>simp
end Go.Proofs
namespace Go.Proofs
theorem KI{m n:Bn}(hb:Br (uN m.2.1 m.2.2))(h:∀k v,xp m k v→xp n k v):∃t,m.1=n.1++t:=by
 rcases hb with⟨v,hv⟩|⟨j,k,u,v,hj,hk,nj,nk,hne⟩
 ·obtain⟨r,e,_⟩:=h m.1 v ⟨[],(aW _).symm,hv⟩
  exact⟨r,e⟩
 ·obtain⟨r,e,_⟩:=h (m.1++j) u ⟨j,rfl,hj⟩
  obtain⟨s,f,_⟩:=h (m.1++k) v ⟨k,rfl,hk⟩;rcases List.append_eq_append_iff.1 e with⟨a,h1,h2⟩|⟨a,h1,h2⟩
  ·rw[h1,aq]at f
   have f:=gR f;cases a with
   |nil=>exact⟨[],by rw[h1];simp⟩
   |cons x a=>
    rw[h2]at hne;rw[f]at hne;exact absurd rfl hne
  ·exact⟨a,h1⟩
theorem Jk:∀{F F':Fo},gi F→gi F'→(∀k v,tE F k v↔tE F' k v)→F=F'
 | .nil,.nil,_,_,_=>rfl
 | .nil,.cons lab w kids rest,_,h,he=>by
  obtain⟨r,v,hr⟩:=nA h _ (ar ..);exact((he _ v).2 (iH.2 ⟨_,ar ..,r,rfl,hr⟩)).elim
 | .cons lab w kids rest,.nil,h,_,he=>by
  obtain⟨r,v,hr⟩:=nA h _ (ar ..);exact((he _ v).1 (iH.2 ⟨_,ar ..,r,rfl,hr⟩)).elim
 | .cons lab w kids rest,.cons lab' w' kids' rest',h,h',he=>by
  have low:∀{lab w kids rest} {F:Fo},gi (.cons lab w kids rest)→gi F→(∀k v,tE F k v→tE (.cons lab w kids rest) k v)→∀n∈F.toL,hd lab≤hd n.1:=by
   intro lab w kids rest F h hF hi n hn;obtain⟨r,v,hr⟩:=nA hF n hn;obtain⟨m,hm,e,_⟩:=sR h (hi _ v (iH.2 ⟨n,hn,r,rfl,hr⟩));rw[qi ((gf.1 hF).2 n hn).1]at e;rcases aA.1 hm with rfl|hm
   ·simp only at e;omega
   ·have:=h.2.2.2.1 m hm;omega
  have e1:=low h h' (fun k v=>(he k v).2) _ (ar ..)
  have e2:=low h' h (fun k v=>(he k v).1) _ (ar ..)
  simp only at e1 e2;have ehd:hd lab=hd lab':=by omega
  have nod:∀{lab w kids rest lab' w' kids' rest'},gi (.cons lab w kids rest)→gi (.cons lab' w' kids' rest')→hd lab=hd lab'→(∀k v,tE (.cons lab w kids rest) k v→tE (.cons lab' w' kids' rest') k v)→(∀k v,xp (lab,w,kids) k v→xp (lab',w',kids') k v)∧(∀k v,tE rest k v→tE rest' k v):=by
   intro lab w kids rest lab' w' kids' rest' h h' ehd hi;refine⟨fun k v hk=>?_,fun k v hk=>?_⟩
   ·obtain⟨n,hn,e,hr⟩:=sR h' (hi k v (iH.2 ⟨_,ar ..,hk⟩))
    obtain⟨r,rfl,_⟩:=hk;rw[qi h.1]at e;rw[←Fp h' hn (ar ..) (by simp only;omega)];exact hr
   ·obtain⟨m,hm,em,_⟩:=sR h.2.2.2.2 hk
    have:=h.2.2.2.1 m hm;obtain⟨n,hn,e,hr⟩:=sR h' (hi k v (Or.inr hk));rcases aA.1 hn with rfl|hn
    ·simp only at e;omega
    ·exact iH.2 ⟨n,hn,hr⟩
  have⟨n1,r1⟩:=nod h h' ehd fun k v=>(he k v).1
  have⟨n2,r2⟩:=nod h' h ehd.symm fun k v=>(he k v).2
  have erest:rest=rest':=Jk h.2.2.2.2 h'.2.2.2.2 fun k v=>⟨r1 k v,r2 k v⟩
  obtain⟨t,ht⟩:=KI (m:=(lab,w,kids)) (n:=(lab',w',kids')) ((Cl h.2.2.1).1 h.2.1) n1;obtain⟨t',ht'⟩:=KI (m:=(lab',w',kids')) (n:=(lab,w,kids)) ((Cl h'.2.2.1).1 h'.2.1) n2;simp only at ht ht';have hlab:lab=lab':=by
   have:t= []:=by
    have h1:=congrArg dT ht;have h2:=congrArg dT ht';rw[ac]at h1 h2;exact aH.1 (by omega)
   rw[ht,this,aW]
  subst hlab;have inR:∀{w kids w' kids'},(∀k v,xp (lab,w,kids) k v→xp (lab,w',kids') k v)→∀k v,uN w kids k v→uN w' kids' k v:=by
   intro w kids w' kids' hn k v hk;obtain⟨r,e,hr⟩:=hn (lab++k) v ⟨k,rfl,hk⟩;rw[gR e];exact hr
  have i1:=inR n1;have i2:=inR n2;have ew:w=w':=by
   have wv:∀{w kids w' kids'},gi kids'→(∀k v,uN w kids k v→uN w' kids' k v)→∀v,w=some v→w'=some v:=by
    intro w kids w' kids' hc hi v hv;rcases hi [] v (.inl ⟨rfl,hv⟩)with⟨_,h⟩|h
    ·exact h
    ·exact absurd rfl (pA hc h)
   exact Option.ext fun v=>⟨wv h'.2.2.1 i1 v,wv h.2.2.1 i2 v⟩
  have kd:∀{w kids w' kids'},gi kids→(∀k v,uN w kids k v→uN w' kids' k v)→∀k v,tE kids k v→tE kids' k v:=by
   intro w kids w' kids' hc hi k v hk;rcases hi k v (.inr hk)with⟨e,_⟩|h
   ·exact absurd e (pA hc hk)
   ·exact h
  have ekids:kids=kids':=Jk h.2.2.1 h'.2.2.1 fun k v=>⟨kd h.2.2.1 i1 k v,kd h'.2.2.1 i2 k v⟩
  rw[ew,ekids,erest]
def rJ(P P':List UInt8→ByteArray→Prop)(k:List UInt8)(v:ByteArray):Prop:=∀k' v',P' k' v'↔(k'=k∧v'=v)∨(k'≠k∧P k' v')
theorem DP{w:Option ByteArray}{F:Fo}(h:gi F)(v:ByteArray):rJ (uN w F) (uN (some v) F) [] v:=by
 intro k' v';unfold uN;constructor
 ·rintro(⟨e,f⟩|hi)
  ·exact .inl ⟨e,(bH.inj f).symm⟩
  ·exact .inr ⟨pA h hi,.inr hi⟩
 ·rintro(⟨e,f⟩|⟨e,⟨f,_⟩|hi⟩)
  ·exact .inl ⟨e,by rw[f]⟩
  ·exact absurd f e
  ·exact .inr hi
theorem yV{w:Option ByteArray}{F F':Fo}{k:List UInt8}{v:ByteArray}(hk:k≠[])(h:rJ (tE F) (tE F') k v):rJ (uN w F) (uN w F') k v:=by
 intro k' v';unfold uN;rw[h k' v'];constructor
 ·rintro(⟨e,f⟩|hi|hi)
  ·exact .inr ⟨fun e'=>hk (e'.symm.trans e),.inl ⟨e,f⟩⟩
  ·exact .inl hi
  ·exact .inr ⟨hi.1,.inr hi.2⟩
 ·rintro(hi|⟨e,hi|hi⟩)
  ·exact .inr (.inl hi)
  ·exact .inl hi
  ·exact .inr (.inr ⟨e,hi⟩)
theorem LJ{F:Fo}{k:List UInt8}{v:ByteArray}{i:Nat}(h:gi F)(hk:k≠[])(hi:∀j (hj:j<F.toL.length),j<i→hd F.toL[j].1<hd k)(hi':∀j (hj:j<F.toL.length),i≤j→hd k<hd F.toL[j].1):gi (.ofL (F.toL.take i++(k,some v,.nil)::F.toL.drop i))∧rJ (tE F) (tE (.ofL (F.toL.take i++(k,some v,.nil)::F.toL.drop i))) k v:=by
 have hc:=gf.1 h;have t1:∀n∈F.toL.take i,hd n.1<hd k:=fun n hn=>by
  obtain⟨j,hj,e⟩:=cx hn;rw[aK]at hj;rw[←e,List.getElem_take];exact hi j (by omega) (by omega)
 have t2:∀n∈F.toL.drop i,hd k<hd n.1:=fun n hn=>by
  obtain⟨j,hj,e⟩:=cx hn;rw[aS]at hj;rw[←e,List.getElem_drop];exact hi' _ (by omega) (by omega)
 have mem:∀n,n∈F.toL.take i++(k,some v,.nil)::F.toL.drop i↔n=(k,some v,Fo.nil)∨n∈F.toL:=fun n=>by
  conv=>rhs;rw[←aF i F.toL]
  simp only[bV,aA];exact⟨fun h=>h.elim (fun h=>.inr (.inl h)) fun h=>h.elim .inl fun h=>.inr (.inr h),fun h=>h.elim (fun h=>.inr (.inl h)) fun h=>h.elim .inl fun h=>.inr (.inr h)⟩
 refine⟨gf.2 ⟨?_,?_⟩,fun k' v'=>?_⟩
 ·rw[Fo.to_of]
  have hp:=hc.1;rw[←aF i F.toL,ci]at hp;refine ci.2 ⟨hp.1,aX.2 ⟨t2,hp.2.1⟩,fun a ha b hb=>?_⟩
  rcases aA.1 hb with rfl|hb
  ·exact t1 a ha
  ·exact hp.2.2 a ha b hb
 ·rw[Fo.to_of]
  intro n hn;rcases(mem n).1 hn with rfl|hn
  ·exact⟨hk,.inl rfl,trivial⟩
  ·exact hc.2 n hn
 ·rw[iH,iH,Fo.to_of]
  constructor
  ·rintro⟨n,hn,r,e,hr⟩
   rcases(mem n).1 hn with rfl|hn
   ·rcases hr with⟨rfl,f⟩|f
    ·exact .inl ⟨by rw[e];exact aW _,(bH.inj f).symm⟩
    ·exact f.elim
   ·right
    refine⟨fun e'=>?_,n,hn,r,e,hr⟩
    have e2:hd k=hd n.1:=by rw[←e',e,qi (hc.2 n hn).1]
    obtain⟨j,hj,ej⟩:=cx hn;rcases bN j i with h1|h1
    ·have:=hi j hj h1;rw[ej]at this;omega
    ·have:=hi' j hj h1;rw[ej]at this;omega
  ·rintro(⟨rfl,rfl⟩|⟨_,n,hn,h⟩)
   ·exact⟨(k',some v',.nil),(mem _).2 (.inl rfl),[],(aW _).symm,.inl ⟨rfl,rfl⟩⟩
   ·exact⟨n,(mem _).2 (.inr hn),h⟩
theorem qN{α:Type}{l:List α}{i:Nat}(hi:i<l.length){a x:α}(nd:∀j (hj:j<l.length),j≠i→l[j]≠l[i]):x∈l.set i a↔x=a∨(x∈l∧x≠l[i]):=by
 constructor
 ·intro h
  obtain⟨j,hj,e⟩:=cx h;rw[g5]at hj;rw[List.getElem_set]at e;split at e
  ·exact .inl e.symm
  ·rename_i hne
   exact .inr ⟨by rw[←e];exact bI hj,by rw[←e];exact nd j hj fun e=>hne e.symm⟩
 ·rintro(rfl|⟨h,hne⟩)
  ·exact List.mem_of_getElem (i:=i) (h:=by simpa using hi) (by simp)
  ·obtain⟨j,hj,e⟩:=cx h
   have:i≠j:=by rintro rfl;exact hne e.symm
   exact List.mem_of_getElem (i:=j) (h:=by simpa using hj) (by rw[List.getElem_set_ne this];exact e)
theorem Pk{F:Fo}{i:Nat}{m:Bn}(h:gi F)(hi:i<F.toL.length)(hm:Mg m)(e:hd m.1=hd F.toL[i].1):gi (.ofL (F.toL.set i m)):=by
 have hc:=gf.1 h;rw[gf,Fo.to_of];refine⟨?_,fun n hn=>?_⟩
 ·rw[cX]at hc⊢
  intro a b ha hb hab;rw[g5]at ha hb;rw[List.getElem_set,List.getElem_set];split
  ·rename_i ea;subst ea
   rw[if_neg (by omega),e];exact hc.1 _ _ ha hb hab
  ·split
   ·rename_i eb;subst eb
    rw[e];exact hc.1 _ _ ha hb hab
   ·exact hc.1 _ _ ha hb hab
 ·rcases List.mem_or_eq_of_mem_set hn with hn|rfl
  ·exact hc.2 n hn
  ·exact hm
theorem E2{F:Fo}(h:gi F){i:Nat}(hi:i<F.toL.length)(j:Nat)(hj:j<F.toL.length)(hne:j≠i):F.toL[j]≠F.toL[i]:=by
 have hc:=(gf.1 h).1;rw[cX]at hc;intro e;rcases Nat.lt_or_gt_of_ne hne with hl|hl
 ·have:=hc j i hj hi hl;rw[e]at this;omega
 ·have:=hc i j hi hj hl;rw[e]at this;omega
theorem Gv{F:Fo}{i:Nat}{m:Bn}{k:List UInt8}{v:ByteArray}(h:gi F)(hi:i<F.toL.length)(ek:hd F.toL[i].1=hd k)(hp:rJ (xp F.toL[i]) (xp m) k v):rJ (tE F) (tE (.ofL (F.toL.set i m))) k v:=by
 intro k' v';have hc:=gf.1 h;rw[iH,iH,Fo.to_of];constructor
 ·rintro⟨n,hn,hr⟩
  rcases(qN hi (E2 h hi)).1 hn with rfl|⟨hn,hne⟩
  ·rcases(hp k' v').1 hr with h1|⟨h1,h2⟩
   ·exact .inl h1
   ·exact .inr ⟨h1,_,bI hi,h2⟩
  ·refine .inr ⟨fun e=>hne ?_,n,hn,hr⟩
   obtain⟨r,e',_⟩:=hr;refine Fp h hn (bI hi) ?_;rw[ek,←e,e',qi (hc.2 n hn).1]
 ·rintro(h1|⟨h1,n,hn,hr⟩)
  ·exact⟨m,(qN hi (E2 h hi)).2 (.inl rfl),(hp k' v').2 (.inl h1)⟩
  ·by_cases e:n=F.toL[i]
   ·exact⟨m,(qN hi (E2 h hi)).2 (.inl rfl),(hp k' v').2 (.inr ⟨h1,by rw[←e];exact hr⟩)⟩
   ·exact⟨n,(qN hi (E2 h hi)).2 (.inr ⟨hn,e⟩),hr⟩
theorem LI{lab r:List UInt8}{w w':Option ByteArray}{F F':Fo}{v:ByteArray}(h:rJ (uN w F) (uN w' F') r v):rJ (xp (lab,w,F)) (xp (lab,w',F')) (lab++r) v:=by
 intro k' v';constructor
 ·rintro⟨s,e,hs⟩
  rcases(h s v').1 hs with⟨rfl,rfl⟩|⟨h1,h2⟩
  ·exact .inl ⟨e,rfl⟩
  ·exact .inr ⟨fun e'=>h1 (gR (e.symm.trans e')),s,e,h2⟩
 ·rintro(⟨rfl,rfl⟩|⟨h1,s,e,hs⟩)
  ·exact⟨r,rfl,(h r v').2 (.inl ⟨rfl,rfl⟩)⟩
  ·exact⟨s,e,(h s v').2 (.inr ⟨fun e'=>h1 (by rw[e,e']),hs⟩)⟩
def cm:List UInt8→List UInt8→Nat
 |a::x,b::y=>if a=b then cm x y+1 else 0
 |_,_=>0
theorem KZ:∀(x y:List UInt8),cm x y≤x.length∧cm x y≤y.length
 | [],_=>by simp[cm]
 |_::_,[]=>by simp[cm]
 |a::x,b::y=>by unfold cm;have:=KZ x y;split<;>simp<;>omega
theorem KW:∀(x y:List UInt8),x.take (cm x y)=y.take (cm x y)
 | [],_=>by simp[cm]
 |_::_,[]=>by simp[cm]
 |a::x,b::y=>by
  unfold cm;split
  ·rename_i e;rw[dI,dI,KW x y,e]
  ·simp
theorem Fm:∀(x y:List UInt8),cm x y<x.length→cm x y<y.length→hd (x.drop (cm x y))≠hd (y.drop (cm x y))
 | [],_=>by simp[cm]
 |_::_,[]=>by simp[cm]
 |a::x,b::y=>by
  unfold cm;split
  ·rename_i e
   intro h1 h2;rw[List.length_cons]at h1 h2;rw[ju,ju];exact Fm x y (by omega) (by omega)
  ·rename_i e
   intro _ _ h;exact e (km.1 h)
theorem NO{x y:List UInt8}(hx:x≠[])(hy:y≠[])(h:hd x=hd y):0<cm x y:=by
 match x,y,hx,hy with
 |a::x,b::y,_,_=>
  unfold cm;rw[if_pos (show a=b from km.1 h)]
  omega
theorem LR{lab:List UInt8}{w:Option ByteArray}{F:Fo}(c:Nat):∀k v,xp (lab.take c,none,.cons (lab.drop c) w F .nil) k v↔xp (lab,w,F) k v:=by
 intro k v;constructor
 ·rintro⟨r,e,⟨_,h⟩|(⟨s,rfl,h⟩|h)⟩
  ·cases h
  ·exact⟨s,by rw[e];simp only;rw[←aq,aF],h⟩
  ·exact h.elim
 ·rintro⟨s,e,h⟩
  exact⟨lab.drop c++s,by rw[e];simp only;rw[←aq,aF],.inr (.inl ⟨s,rfl,h⟩)⟩
theorem NT{lab r:List UInt8}{w w':Option ByteArray}{F F':Fo}{v:ByteArray}(hl:lab≠[])(hb:w.isSome∨2≤F.toL.length)(hF:gi F)(hne:r≠[]→hd r≠hd lab)(h:rJ (uN none (.cons lab w F .nil)) (uN w' F') r v):Br (uN w' F'):=by
 by_cases e:r= []
 ·subst e
  exact .inl ⟨v,(h [] v).2 (.inl ⟨rfl,rfl⟩)⟩
 ·have hc:gi (.cons lab w F .nil):=⟨hl,hb,hF,fun n hn=>by simp[Fo.toL]at hn,trivial⟩
  obtain⟨s,u,hs⟩:=nA hc _ (ar ..);simp only at hs;have e2:hd (lab++s)=hd lab:=qi hl;refine .inr ⟨r,lab++s,v,u,(h r v).2 (.inl ⟨rfl,rfl⟩),(h _ u).2 (.inr ⟨fun e'=>hne e (by rw[←e',e2]),.inr (.inl ⟨s,rfl,hs⟩)⟩),e,fun e'=>hl (j3.1 e').1,by rw[e2];exact hne e⟩
theorem Pm{P P':List UInt8→ByteArray→Prop}{k:List UInt8}{v:ByteArray}(hb:Br P)(h:rJ P P' k v):Br P':=by
 have keep:∀j u,P j u→∃u',P' j u':=fun j u hj=>by
  by_cases e:j=k
  ·exact⟨v,(h j v).2 (.inl ⟨e,rfl⟩)⟩
  ·exact⟨u,(h j u).2 (.inr ⟨e,hj⟩)⟩
 rcases hb with⟨u,hu⟩|⟨j,k',u,u',hj,hk,r⟩
 ·obtain⟨u',h'⟩:=keep [] u hu
  exact .inl ⟨u',h'⟩
 ·obtain⟨a,ha⟩:=keep j u hj
  obtain⟨b,hb⟩:=keep k' u' hk;exact .inr ⟨j,k',a,b,ha,hb,r⟩
end Go.Proofs
namespace Go.Proofs
open Go.Lift
theorem yI(n:Int):0≤IntKind.wrap .u64 n∧IntKind.wrap .u64 n<18446744073709551616:=by rw[IntKind.wrap_u64];omega
theorem jm{x:Int}(h: -4611686018427387904≤x∧x≤4611686018427387904):IntKind.wrap .i64 x=x:=Go.IntWalk.i64_in _ (by omega)
theorem cp{i n:Nat}(h:i<n)(hn:n≤4611686018427387904):IntKind.wrap .i64 ((i:Int)+1)=((i+1:Nat):Int):=by rw[jm (by omega)];omega
theorem rH{h:ad}{b i:Nat}{c:Array Value}{t:TypeId}{v:Value}{k:ad→Prop}(hb:h[b]? =some (.cells c t (0,0)))
  (hk:∀h',h'[b]? =some (.cells (c.setIfInBounds i v) t (0,0))→Upd (· =b) h h'→k h'):At (hset h ⟨b,i,none⟩ v) k:=by
 refine hk _ ?_ (Upd.hset _ _ rfl);rw[BW hb,iY hb]
def Hh(a b:Int):Int:=IntKind.wrap .u64 (aj (IntKind.bits .u64) a&&&aj (IntKind.bits .u64) b).toNat
def dz(a b:Int):Int:=IntKind.wrap .u64 (aj (IntKind.bits .u64) a^^^aj (IntKind.bits .u64) b).toNat
def BG(a b:Int):Int:=IntKind.wrap .u64 (aj (IntKind.bits .u64) a|||aj (IntKind.bits .u64) b).toNat
def Bv(x n:Int):Int:=
 BG (IntKind.wrap .u64 (x*2^(min (Hh (IntKind.wrap .u64 n) 63).toNat (IntKind.bits .u64)))) (Int.fdiv x (2^(min (IntKind.wrap .u64 (64-Hh (IntKind.wrap .u64 n) 63)).toNat (IntKind.bits .u64))))
theorem yO{x n:Int}{h:ad}{K:Int→ad→Prop}(hk:K (Bv x n) h):HC PG dq [.int .u64 x,.int .i64 n] [.c (.int .u64)] K h:=by
 refine rK x n ?_;unfold mE;exact⟨(yI _).1,(yI _).1,hk⟩
abbrev Q4:=Int×Int×Int×Int
def q4(s:Q4):Array Value:= #[.int .u64 s.1,.int .u64 s.2.1,.int .u64 s.2.2.1,.int .u64 s.2.2.2]
def N2(a b:Int):Int:=IntKind.wrap .u64 (a+b)
def Oi(s:Q4):Q4:=(N2 s.1 s.2.1,s.2)
def OD(s:Q4):Q4:=(s.1,dz (Bv s.2.1 13) s.1,s.2.2)
def PD(s:Q4):Q4:=(Bv s.1 32,s.2)
def P5(s:Q4):Q4:=(s.1,s.2.1,N2 s.2.2.1 s.2.2.2,s.2.2.2)
def QD(s:Q4):Q4:=(s.1,s.2.1,s.2.2.1,dz (Bv s.2.2.2 16) s.2.2.1)
def QT(s:Q4):Q4:=(N2 s.1 s.2.2.2,s.2)
def Rm(s:Q4):Q4:=(s.1,s.2.1,s.2.2.1,dz (Bv s.2.2.2 21) s.1)
def Rz(s:Q4):Q4:=(s.1,s.2.1,N2 s.2.2.1 s.2.1,s.2.2.2)
def s09(s:Q4):Q4:=(s.1,dz (Bv s.2.1 17) s.2.2.1,s.2.2)
def s10(s:Q4):Q4:=(s.1,s.2.1,Bv s.2.2.1 32,s.2.2.2)
def jS(s:Q4):Q4:=s10 (s09 (Rz (Rm (QT (QD (P5 (PD (OD (Oi s)))))))))
def ns:Nat→Q4→Q4
 |0,s=>s
 |n+1,s=>ns n (jS s)
theorem oA{h:ad}{b i:Nat}{t:TypeId}{s s':Q4}{v:Value}{k:ad→Prop}(hb:h[b]? =some (.cells (q4 s) t (0,0))) (e:(q4 s).setIfInBounds i v=q4 s')
  (hk:∀h',h'[b]? =some (.cells (q4 s') t (0,0))→Upd (· =b) h h'→k h'):At (hset h ⟨b,i,none⟩ v) k:=
 rH hb fun h' hb' hu=>hk h' (e▸hb') hu
theorem DG{n:Nat}(hn:n≤100){h:ad}{b:Nat}{t:TypeId}{s:Q4}(hb:h[b]? =some (.cells (q4 s) t (0,0))) {K:Unit→ad→Prop}
  (hk:∀h',h'[b]? =some (.cells (q4 (ns n s)) t (0,0))→Upd (· =b) h h'→K () h'):HC PG ir [.pointer (some ⟨b,0,none⟩),.int .i64 n] [] K h:=by
 refine w6 _ _ ?_;unfold qv cf dd dL ii nn;refine LoopP.ghost (fun(g:Nat×Q4) (t':Int) h'=>t'=(g.1:Int)∧g.1≤n∧h'[b]? =some (.cells (q4 g.2) t (0,0))∧Upd (· =b) h h'∧ns (n-g.1) g.2=ns n s) (fun g=>n-g.1) (0,s) ⟨rfl,aR _,hb,Upd.refl _ _,rfl⟩ ?_
 rintro I ⟨i,s1⟩ t' h' ⟨ht,hi,hb1,hu,hr⟩ hI;simp only at ht hi hb1 hr;subst ht;refine aE (fun hlt=>?_) fun hge=>?_
 ·have hlt:i<n:=by omega
  have c:∀{h:ad} {s:Q4} {i:Nat},h[b]? =some (.cells (q4 s) t (0,0))→aN h ⟨b,0+i,none⟩=(q4 s)[i]?:=fun hb=>by rw[aD];exact aV hb
  have w:∀{h:ad} {s:Q4} {i:Nat},h[b]? =some (.cells (q4 s) t (0,0))→i<4→Wr h ⟨b,0+i,none⟩:=fun hb hi=>by rw[aD];exact gS hb hi
  simp only[show((0:Int)).toNat*1=0 from rfl,show((1:Int)).toNat*1=1 from rfl,show((2:Int)).toNat*1=2 from rfl,show((3:Int)).toNat*1=3 from rfl]
  refine⟨_,rfl,by decide,_,c (i:=0) hb1,_,rfl,by decide,_,c (i:=1) hb1,_,rfl,by decide,w (i:=0) hb1 (by decide),oA (s':=Oi s1) hb1 rfl fun h2 hb2 hu2=>?_⟩
  refine⟨_,rfl,by decide,_,c (i:=1) hb2,_,rfl,by decide,_,c (i:=0) hb2,_,rfl,yO ⟨c (i:=0) hb2,by decide,w (i:=1) hb2 (by decide),oA (s':=OD (Oi s1)) hb2 rfl fun h3 hb3 hu3=>?_⟩⟩
  refine⟨_,rfl,by decide,_,c (i:=0) hb3,_,rfl,yO ⟨by decide,w (i:=0) hb3 (by decide),oA (s':=PD (OD (Oi s1))) hb3 rfl fun h4 hb4 hu4=>?_⟩⟩
  refine⟨_,rfl,by decide,_,c (i:=2) hb4,_,rfl,by decide,_,c (i:=3) hb4,_,rfl,by decide,w (i:=2) hb4 (by decide),oA (s':=P5 (PD (OD (Oi s1)))) hb4 rfl fun h5 hb5 hu5=>?_⟩
  refine⟨_,rfl,by decide,_,c (i:=3) hb5,_,rfl,by decide,_,c (i:=2) hb5,_,rfl,yO ⟨c (i:=2) hb5,by decide,w (i:=3) hb5 (by decide),oA (s':=QD (P5 (PD (OD (Oi s1))))) hb5 rfl fun h6 hb6 hu6=>?_⟩⟩
  refine⟨_,rfl,by decide,_,c (i:=0) hb6,_,rfl,by decide,_,c (i:=3) hb6,_,rfl,by decide,w (i:=0) hb6 (by decide),oA (s':=QT (QD (P5 (PD (OD (Oi s1)))))) hb6 rfl fun h7 hb7 hu7=>?_⟩
  refine⟨_,rfl,by decide,_,c (i:=3) hb7,_,rfl,by decide,_,c (i:=0) hb7,_,rfl,yO ⟨c (i:=0) hb7,by decide,w (i:=3) hb7 (by decide),oA (s':=Rm (QT (QD (P5 (PD (OD (Oi s1))))))) hb7 rfl fun h8 hb8 hu8=>?_⟩⟩
  refine⟨_,rfl,by decide,_,c (i:=2) hb8,_,rfl,by decide,_,c (i:=1) hb8,_,rfl,by decide,w (i:=2) hb8 (by decide),oA (s':=Rz (Rm (QT (QD (P5 (PD (OD (Oi s1)))))))) hb8 rfl fun h9 hb9 hu9=>?_⟩
  refine⟨_,rfl,by decide,_,c (i:=1) hb9,_,rfl,by decide,_,c (i:=2) hb9,_,rfl,yO ⟨c (i:=2) hb9,by decide,w (i:=1) hb9 (by decide),oA (s':=s09 (Rz (Rm (QT (QD (P5 (PD (OD (Oi s1))))))))) hb9 rfl fun h10 hb10 hu10=>?_⟩⟩
  refine⟨_,rfl,by decide,_,c (i:=2) hb10,_,rfl,yO ⟨by decide,w (i:=2) hb10 (by decide),oA (s':=jS s1) hb10 rfl fun h11 hb11 hu11=>?_⟩⟩
  rw[cp hlt (by omega)];refine hI (i+1,jS s1) _ _ ⟨rfl,hlt,hb11,hu.tr (hu2.tr (hu3.tr (hu4.tr (hu5.tr (hu6.tr (hu7.tr (hu8.tr (hu9.tr (hu10.tr hu11))))))))),?_⟩ (by simp only;omega);simp only;rw[←hr,show n-i=(n-(i+1))+1 by omega];rfl
 ·obtain rfl:i=n:=by omega
  rw[Nat.sub_self]at hr;have hr:s1=ns i s:=hr;rw[←hr]at hk;exact hk _ hb1 hu
end Go.Proofs
namespace Go.Proofs
open Go.Lift
def Hf(s:ByteArray)(i:Nat):Int:=match s[i]? with|some b=>(b.toNat:Int)|none=>0
def PC(b:Int)(n:Int):Int:=IntKind.wrap .u64 ((IntKind.wrap .u64 b)*2^(min n.toNat (IntKind.bits .u64)))
def wj(s:ByteArray):Nat→Int→Int
 |0,t=>t
 |k+1,t=>wj s k (BG t (if k=0 then IntKind.wrap .u64 (Hf s 0)else PC (Hf s k) ((8*k:Nat):Int)))
def vF(s:ByteArray):Int:=wj s s.size 0
theorem qY{s:ByteArray}{i:Nat}(h:i<s.size):∃b,s[i]? =some b∧Hf s i=(b.toNat:Int):=⟨s[i],getElem?_pos s i h,by simp[Hf,getElem?_pos s i h]⟩
theorem Kc{s:ByteArray}(hs:s.size≤8){h:ad}{K:Int→ad→Prop}(hk:K (vF s) h):HC PG sZ [.string s] [.c (.int .u64)] K h:=by
 refine Jz s ?_;unfold Cy;refine Join.intro (fun t h'=>h'=h∧1≤s.size∧wj s 1 t=wj s s.size 0) (fun R1 hR1=>?_) ?_
 ·refine Join.intro (fun t h'=>h'=h∧2≤s.size∧wj s 2 t=wj s s.size 0) (fun R2 hR2=>?_) ?_
  ·refine Join.intro (fun t h'=>h'=h∧3≤s.size∧wj s 3 t=wj s s.size 0) (fun R3 hR3=>?_) ?_
   ·refine Join.intro (fun t h'=>h'=h∧4≤s.size∧wj s 4 t=wj s s.size 0) (fun R4 hR4=>?_) ?_
    ·refine Join.intro (fun t h'=>h'=h∧5≤s.size∧wj s 5 t=wj s s.size 0) (fun R5 hR5=>?_) ?_
     ·refine Join.intro (fun t h'=>h'=h∧6≤s.size∧wj s 6 t=wj s s.size 0) (fun R6 hR6=>?_) ?_
      ·refine Join.intro (fun t h'=>h'=h∧7≤s.size∧wj s 7 t=wj s s.size 0) (fun R7 hR7=>?_) ?_
       ·refine CondP.intro (fun e=>?_) fun e8=>?_
        ·have e:s.size=8:=by have:=of_decide_eq_true (by simpa using e:decide ((s.size:Int)=8)=true);omega
         obtain⟨b,hb,hv⟩:=qY (s:=s) (i:=7) (by omega);refine⟨b,by decide,hb,by decide,hR7 _ _ ⟨rfl,by omega,?_⟩⟩
         rw[e,←hv];rfl
        refine CondP.intro (fun e=>?_) fun e7=>?_
        ·have e:s.size=7:=by have:=of_decide_eq_true (by simpa using e:decide ((s.size:Int)=7)=true);omega
         exact hR7 _ _ ⟨rfl,by omega,by rw[e]⟩
        refine CondP.intro (fun e=>?_) fun e6=>?_
        ·have e:s.size=6:=by have:=of_decide_eq_true (by simpa using e:decide ((s.size:Int)=6)=true);omega
         exact hR6 _ _ ⟨rfl,by omega,by rw[e]⟩
        refine CondP.intro (fun e=>?_) fun e5=>?_
        ·have e:s.size=5:=by have:=of_decide_eq_true (by simpa using e:decide ((s.size:Int)=5)=true);omega
         exact hR5 _ _ ⟨rfl,by omega,by rw[e]⟩
        refine CondP.intro (fun e=>?_) fun e4=>?_
        ·have e:s.size=4:=by have:=of_decide_eq_true (by simpa using e:decide ((s.size:Int)=4)=true);omega
         exact hR4 _ _ ⟨rfl,by omega,by rw[e]⟩
        refine CondP.intro (fun e=>?_) fun e3=>?_
        ·have e:s.size=3:=by have:=of_decide_eq_true (by simpa using e:decide ((s.size:Int)=3)=true);omega
         exact hR3 _ _ ⟨rfl,by omega,by rw[e]⟩
        refine CondP.intro (fun e=>?_) fun e2=>?_
        ·have e:s.size=2:=by have:=of_decide_eq_true (by simpa using e:decide ((s.size:Int)=2)=true);omega
         exact hR2 _ _ ⟨rfl,by omega,by rw[e]⟩
        refine CondP.intro (fun e=>?_) fun e1=>?_
        ·have e:s.size=1:=by have:=of_decide_eq_true (by simpa using e:decide ((s.size:Int)=1)=true);omega
         exact hR1 _ _ ⟨rfl,by omega,by rw[e]⟩
        have e:s.size=0:=by
         have q1:¬(s.size:Int)=1:=by simpa using e1
         have q2:¬(s.size:Int)=2:=by simpa using e2
         have q3:¬(s.size:Int)=3:=by simpa using e3
         have q4:¬(s.size:Int)=4:=by simpa using e4
         have q5:¬(s.size:Int)=5:=by simpa using e5
         have q6:¬(s.size:Int)=6:=by simpa using e6
         have q7:¬(s.size:Int)=7:=by simpa using e7
         have q8:¬(s.size:Int)=8:=by simpa using e8
         omega
        unfold vF at hk;rw[e]at hk;exact hk
       ·rintro t _ ⟨rfl,hsz,ht⟩
        obtain⟨b,hb,hv⟩:=qY (s:=s) (i:=6) (by omega);refine⟨b,by decide,hb,by decide,hR6 _ _ ⟨rfl,by omega,?_⟩⟩
        rw[←ht,←hv];rfl
      ·rintro t _ ⟨rfl,hsz,ht⟩
       obtain⟨b,hb,hv⟩:=qY (s:=s) (i:=5) (by omega);refine⟨b,by decide,hb,by decide,hR5 _ _ ⟨rfl,by omega,?_⟩⟩
       rw[←ht,←hv];rfl
     ·rintro t _ ⟨rfl,hsz,ht⟩
      obtain⟨b,hb,hv⟩:=qY (s:=s) (i:=4) (by omega);refine⟨b,by decide,hb,by decide,hR4 _ _ ⟨rfl,by omega,?_⟩⟩
      rw[←ht,←hv];rfl
    ·rintro t _ ⟨rfl,hsz,ht⟩
     obtain⟨b,hb,hv⟩:=qY (s:=s) (i:=3) (by omega);refine⟨b,by decide,hb,by decide,hR3 _ _ ⟨rfl,by omega,?_⟩⟩
     rw[←ht,←hv];rfl
   ·rintro t _ ⟨rfl,hsz,ht⟩
    obtain⟨b,hb,hv⟩:=qY (s:=s) (i:=2) (by omega);refine⟨b,by decide,hb,by decide,hR2 _ _ ⟨rfl,by omega,?_⟩⟩
    rw[←ht,←hv];rfl
  ·rintro t _ ⟨rfl,hsz,ht⟩
   obtain⟨b,hb,hv⟩:=qY (s:=s) (i:=1) (by omega);refine⟨b,by decide,hb,by decide,hR1 _ _ ⟨rfl,by omega,?_⟩⟩
   rw[←ht,←hv];rfl
 ·rintro t _ ⟨rfl,hsz,ht⟩
  obtain⟨b,hb,hv⟩:=qY (s:=s) (i:=0) (by omega);refine⟨b,by decide,hb,?_⟩
  unfold vF at hk;rw[←ht]at hk;rw[←hv];exact hk
end Go.Proofs
namespace Go.Proofs
open Go.Lift
def pL(m:Int)(s:Q4):Q4:=
 let r:=ns 2 (s.1,s.2.1,s.2.2.1,dz s.2.2.2 m)
 (dz r.1 m,r.2)
theorem Kg{m:Int}{h:ad}{b:Nat}{t:TypeId}{s:Q4}(hb:h[b]? =some (.cells (q4 s) t (0,0))) {K:Unit→ad→Prop}
  (hk:∀h',h'[b]? =some (.cells (q4 (pL m s)) t (0,0))→Upd (· =b) h h'→K () h'):HC PG lM [.pointer (some ⟨b,0,none⟩),.int .u64 m] [] K h:=by
 refine zn _ _ ?_;unfold sy cf dd xo dL;have c:∀{h:ad} {s:Q4} {i:Nat},h[b]? =some (.cells (q4 s) t (0,0))→aN h ⟨b,0+i,none⟩=(q4 s)[i]?:=fun hb=>by rw[aD];exact aV hb
 have w:∀{h:ad} {s:Q4} {i:Nat},h[b]? =some (.cells (q4 s) t (0,0))→i<4→Wr h ⟨b,0+i,none⟩:=fun hb hi=>by rw[aD];exact gS hb hi
 simp only[show((0:Int)).toNat*1=0 from rfl,show((3:Int)).toNat*1=3 from rfl]
 refine⟨_,rfl,by decide,_,c (i:=3) hb,_,rfl,by decide,w (i:=3) hb (by decide),oA (s':=(s.1,s.2.1,s.2.2.1,dz s.2.2.2 m)) hb rfl fun h2 hb2 hu2=>?_⟩
 refine DG (n:=2) (by omega) hb2 fun h3 hb3 hu3=>?_
 have et:pL m s=(dz (ns 2 (s.1,s.2.1,s.2.2.1,dz s.2.2.2 m)).1 m,(ns 2 (s.1,s.2.1,s.2.2.1,dz s.2.2.2 m)).2):=by unfold pL;rfl
 rw[et]at hk;generalize ns 2 (s.1,s.2.1,s.2.2.1,dz s.2.2.2 m)=r at hb3 hk;refine⟨_,rfl,by decide,_,c (i:=0) hb3,_,rfl,by decide,w (i:=0) hb3 (by decide),oA (s':=(dz r.1 m,r.2)) hb3 rfl fun h4 hb4 hu4=>?_⟩
 exact hk _ hb4 (hu2.tr (hu3.tr hu4))
def zG:Nat→ByteArray→Q4→ByteArray×Q4
 |0,s,q=>(s,q)
 |n+1,s,q=>if 8≤s.size then zG n (s.extract 8 s.size) (pL (vF (s.extract 0 8)) q)else(s,q)
def Qp(r:Q4):Int:=dz (dz (dz r.1 r.2.1) r.2.2.1) r.2.2.2
def Pb(q:Q4):Int:=Qp (ns 4 (q.1,q.2.1,dz q.2.2.1 255,q.2.2.2))
def QS(n:Nat)(g:ByteArray×Q4):Int:=Pb (pL (BG (vF g.1) (PC (n:Int) 56)) g.2)
def H1(k0 k1:Int)(s:ByteArray):Int:=
 QS s.size (zG s.size s (dz k0 8317987319222330741,dz k1 7237128888997146477,dz k0 7816392313619706465,dz k1 8387220255154660723))
theorem Pc{h29:ad}{b:Nat}{t:TypeId}{r:Q4}(hb:h29[b]? =some (.cells (q4 r) t (0,0))) {K:Int→Prop} (hk:K (Qp r)):
  (((0:Int)≤(0:Int)∧(0:Int)<((4:Nat):Int))∧
   ∃v30:Int,aN h29 (adr ⟨b,0,none⟩ ((0:Int).toNat*1))=some (.int .u64 v30)∧
   (((0:Int)≤(1:Int)∧(1:Int)<((4:Nat):Int))∧
    ∃v31:Int,aN h29 (adr ⟨b,0,none⟩ ((1:Int).toNat*1))=some (.int .u64 v31)∧
    Bd (IntKind.wrap .u64 (aj (IntKind.bits .u64) v30^^^aj (IntKind.bits .u64) v31).toNat:Int) (fun n32=>
     (((0:Int)≤(2:Int)∧(2:Int)<((4:Nat):Int))∧
      ∃v33:Int,aN h29 (adr ⟨b,0,none⟩ ((2:Int).toNat*1))=some (.int .u64 v33)∧
      Bd (IntKind.wrap .u64 (aj (IntKind.bits .u64) n32^^^aj (IntKind.bits .u64) v33).toNat:Int) (fun n34=>
       (((0:Int)≤(3:Int)∧(3:Int)<((4:Nat):Int))∧
        ∃v35:Int,aN h29 (adr ⟨b,0,none⟩ ((3:Int).toNat*1))=some (.int .u64 v35)∧
        Bd (IntKind.wrap .u64 (aj (IntKind.bits .u64) n34^^^aj (IntKind.bits .u64) v35).toNat:Int) (fun n36=>
         K n36))))))):=by
 have c:∀{i:Nat},aN h29 ⟨b,0+i,none⟩=(q4 r)[i]?:=by intro i;rw[aD];exact aV hb
 exact⟨by decide,_,c (i:=0),by decide,_,c (i:=1),by decide,_,c (i:=2),by decide,_,c (i:=3),hk⟩
theorem Pa{h24:ad}{b:Nat}{t:TypeId}{q:Q4}(hb:h24[b]? =some (.cells (q4 q) t (0,0))) {K:Unit→ad→Prop}
  (hk:∀h',h'[b]? =some (.cells (q4 (ns 4 (q.1,q.2.1,dz q.2.2.1 255,q.2.2.2))) t (0,0))→Upd (· =b) h24 h'→K () h'):
  (((0:Int)≤(2:Int)∧(2:Int)<((4:Nat):Int))∧
   ∃v25:Int,aN h24 (adr ⟨b,0,none⟩ ((2:Int).toNat*1))=some (.int .u64 v25)∧
   Bd (IntKind.wrap .u64 (aj (IntKind.bits .u64) v25^^^aj (IntKind.bits .u64) 255).toNat:Int) (fun n26=>
    (((0:Int)≤(2:Int)∧(2:Int)<((4:Nat):Int))∧
     (Wr h24 (adr ⟨b,0,none⟩ ((2:Int).toNat*1))∧
      At (hset h24 (adr ⟨b,0,none⟩ ((2:Int).toNat*1)) (.int .u64 n26)) (fun h27=>
       HC PG ir [.pointer (some ⟨b,0,none⟩),.int .i64 4] [] K h27))))):=by
 have c:∀{i:Nat},aN h24 ⟨b,0+i,none⟩=(q4 q)[i]?:=by intro i;rw[aD];exact aV hb
 refine⟨by decide,_,c (i:=2),by decide,by rw[show((2:Int)).toNat*1=2 from rfl,bP];exact gS hb (by simp[q4]),?_⟩
 refine oA (s':=(q.1,q.2.1,dz q.2.2.1 255,q.2.2.2)) hb rfl fun h3 hb3 hu3=>?_
 exact DG (n:=4) (by omega) hb3 fun h4 hb4 hu4=>hk h4 hb4 (hu3.tr hu4)
theorem bj{h:ad}{k:ad→Prop}(hk:k h):At h k:=hk
theorem P2{k0 k1:Int}{s:ByteArray}{h:ad}{K:Int→ad→Prop}(hk:∀h',Upd No h h'→K (H1 k0 k1 s) h'):HC PG y5 [.agg #[.int .u64 k0,.int .u64 k1],.string s] [.c (.int .u64)] K h:=by
 refine L9 (k0,k1) s ?_;unfold Er cf dd ae nv xo dL ii QW K8 Lb Oq;have k1':=Upd.hnew No h [.int .u64 k0,.int .u64 k1] kq;have b1:=bZ h [.int .u64 k0,.int .u64 k1] kq;have z1:=iS h [.int .u64 k0,.int .u64 k1] kq;refine bj ?_;simp only[cM h];generalize hnew h [.int .u64 k0,.int .u64 k1] kq=h1 at k1' b1 z1;refine⟨k0,by rw[bP,aV b1];rfl,k1,by rw[bP,aV b1];rfl,k0,by rw[bP,aV b1];rfl,k1,by rw[bP,aV b1];rfl,?_⟩
 have k2:=Upd.hnew No h1 [.int .u64 0,.int .u64 0,.int .u64 0,.int .u64 0] iX;have b2:=bZ h1 [.int .u64 0,.int .u64 0,.int .u64 0,.int .u64 0] iX;simp only[cM h1];simp only[Bd];refine bj ?_;refine⟨.inr ⟨_,rfl,fun j hj=>by rw[bP];exact gS b2 (by simp at hj⊢;omega)⟩,?_⟩
 refine bj ?_;rw[iR _ _ 0 0 _ b2 (by simp)];have b3:=iY (o:=.cells (q4 (dz k0 8317987319222330741,dz k1 7237128888997146477,dz k0 7816392313619706465,dz k1 8387220255154660723)) iX (0,0)) b2;have k3:Upd No h _:=k1'.tr (k2.trans (M':=(· =h1.size)) (Upd.set (hnew h1 [.int .u64 0,.int .u64 0,.int .u64 0,.int .u64 0] iX) (.cells (q4 (dz k0 8317987319222330741,dz k1 7237128888997146477,dz k0 7816392313619706465,dz k1 8387220255154660723)) iX (0,0)) rfl) fun b hb=>.inr (Nat.le_of_eq hb.symm))
 refine LoopP.ghost (fun(g:Nat×Q4) (t':ByteArray) h'=>t'.size≤g.1∧h'[h1.size]? =some (.cells (q4 g.2) iX (0,0))∧Upd No h h'∧zG g.1 t' g.2=zG s.size s (dz k0 8317987319222330741,dz k1 7237128888997146477,dz k0 7816392313619706465,dz k1 8387220255154660723)) (fun g=>g.1) (s.size,_)
  ⟨ao _,b3,k3,rfl⟩ ?_
 rintro I ⟨n,q⟩ t' h' ⟨hn,hb,hu,hg⟩ hI;simp only at hn hb hg;have hsh:∀b,b=h1.size→No b∨h.size≤b:=fun b hb=>.inr (by omega)
 refine aE (fun hge=>?_) fun hlt=>?_
 ·have hge:8≤t'.size:=by omega
  cases n with
  |zero=>omega
  |succ n=>
   refine⟨by omega,Kc (by rw[fc];show min 8 _-0≤8;omega) (Kg hb fun h2 hb2 hu2=>⟨by omega,?_⟩)⟩
   have e8:((8:Int)).toNat=8:=rfl;rw[e8]at hb2⊢;refine hI (n,pL (vF (t'.extract 0 8)) q) _ _ ⟨by simp only[fc];omega,hb2,hu.trans hu2 hsh,?_⟩ (by simp only;omega);rw[←hg];simp only[zG,if_pos hge]
 ·have hlt:t'.size<8:=by omega
  have hg:(t',q)=zG s.size s (dz k0 8317987319222330741,dz k1 7237128888997146477,dz k0 7816392313619706465,dz k1 8387220255154660723):=by
   rw[←hg];cases n with
   |zero=>rfl
   |succ n=>simp only[zG,if_neg (show ¬8≤t'.size by omega)]
  have c:∀{h:ad} {s:Q4} {i:Nat},h[h1.size]? =some (.cells (q4 s) iX (0,0))→aN h ⟨h1.size,0+i,none⟩=(q4 s)[i]?:=fun hb=>by rw[aD];exact aV hb
  have w:∀{h:ad} {s:Q4} {i:Nat},h[h1.size]? =some (.cells (q4 s) iX (0,0))→i<4→Wr h ⟨h1.size,0+i,none⟩:=fun hb hi=>by rw[aD];exact gS hb hi
  have hsv:H1 k0 k1 s=Pb (pL (BG (vF t') (PC (s.size:Int) 56)) q):=by unfold H1;rw[←hg];rfl
  rw[hsv]at hk;refine Kc (by omega) ⟨by decide,Kg (m:=BG (vF t') (PC (s.size:Int) 56)) hb fun h2 hb2 hu2=>?_⟩
  refine Pa hb2 fun h4 hb4 hu4=>Pc (K:=fun n=>K n h4) hb4 ?_
  exact hk h4 ((hu.trans hu2 hsh).trans hu4 hsh)
structure Hs where
 k0:Int
 k1:Int
 mask:Int
def hO(h:Hs)(s:ByteArray):Int:=Hh (H1 h.k0 h.k1 s) h.mask
theorem vl{x:Hs}{s:ByteArray}{h:ad}{K:Int→ad→Prop}(hk:∀h',Upd No h h'→K (hO x s) h'):HC PG ff [.agg #[.int .u64 x.k0,.int .u64 x.k1,.int .u64 x.mask],.string s] [.c (.int .u64)] K h:=by
 refine yd (x.k0,x.k1,x.mask) s ?_;unfold rc ae yE dQ ii QM;have k1':=Upd.hnew No h [.int .u64 x.k0,.int .u64 x.k1,.int .u64 x.mask] cC;have b1:=bZ h [.int .u64 x.k0,.int .u64 x.k1,.int .u64 x.mask] cC;simp only[At,cM h];generalize hnew h [.int .u64 x.k0,.int .u64 x.k1,.int .u64 x.mask] cC=h1 at k1' b1;refine⟨x.k0,by rw[bP,bP,aV b1];rfl,x.k1,by rw[bP,bP,aV b1];rfl,x.mask,by rw[bP,aV b1];rfl,?_⟩
 refine P2 fun h2 hu=>⟨by rw[bP,aV (hu.get0 b1)];rfl,hk _ (k1'.tr hu)⟩
theorem zR(x:Hs)(s:ByteArray):0≤hO x s∧hO x s<18446744073709551616:=yI _
end Go.Proofs
namespace Go.Proofs
open Go Go.Lift
abbrev eC(x:ByteArray×ByteArray):List Value:= [.string x.1,.string x.2]
theorem fO(x:ByteArray×ByteArray):(eC x).length=2∧0<2:=⟨rfl,by omega⟩
theorem vf:∀xs:List (ByteArray×ByteArray),cj (xs.flatMap eC)=true
 | []=>rfl
 |x::xs=>by rw[aO];exact jT rfl (vf xs)
theorem EX{h:ad}{vb b o la ca lb cb:Nat}{cv cw:Array Value}{tv tb:TypeId}(hv:h[vb]? =some (.cells cv tv (0,0))) (hb:h[b]? =some (.cells cw tb (0,0))) (hn:vb≠b) (h0:cw.size≠0) {K:Bool→ad→Prop} (hk:K false h):
  HC PG g9 [.slice (some ⟨vb,0,none⟩) la ca,.slice (some ⟨b,o,none⟩) lb cb] [.c .bool] K h:=by
 refine⟨fun w hw=>.inr ⟨.bool false,w,?_,Tame.refl w,false,rfl,hw▸hk⟩⟩
 subst hw;rw[p8];have:=Lib.run_overlaps_apart (P:=PG) w cL rx ag (by kernel_rfl) (ce PG ag) (ph (by kernel_rfl)) ⟨vb,0,none⟩ ⟨b,o,none⟩ la ca lb cb hn tv tb cv.size cw.size
  (by simp[World.shape?,hv]) (by simp[World.shape?,hb]) h0 (by simp[World.frozen?,hv]) (by simp[World.frozen?,hv])
 rw[show([Value.slice (some ⟨vb,0,none⟩) la ca,Value.slice (some ⟨b,o,none⟩) lb cb]:List Value).toArray= #[.slice (some ⟨vb,0,none⟩) la ca,.slice (some ⟨b,o,none⟩) lb cb]from rfl,this]
 rfl
set_option maxRecDepth 4000 in
theorem I0{M:Nat→Prop}{h:ad}{s:SliceV}{xs:List (ByteArray×ByteArray)}(hs:OwnS eC 2 ag M h s xs){k:Nat}(hkl:k≤xs.length)(hn:(xs.length+1)*32≤140737488355328){x:ByteArray×ByteArray}{vb:Nat}(hv:h[vb]? =some (.cells (eC x).toArray ag (0,0)))
  (hvM:¬M vb) (hM:∀b,h.size≤b→M b) {K:SliceV→ad→Prop} (hK:∀s' h',OwnS eC 2 ag M h' s' (xs.take k++x::xs.drop k)→Upd M h h'→K s' h'):
  HC PG cS [.slice s.a s.len s.cap,.int .i64 k,.slice (some ⟨vb,0,none⟩) 1 1] [.c .slice] K h:=by
 refine lW s k ⟨some ⟨vb,0,none⟩,1,1⟩ ?_;unfold gN kU;have hlen:=hs.len;have hcap:=hs.cap;have hxr:SRow h (some ⟨vb,0,none⟩) (1*2) (eC x):=⟨rfl,.inr ⟨_,rfl,oQ hv fun i v hi=>by simpa using hi⟩⟩
 refine⟨by omega,al.2 ?_⟩;refine CondP.intro (fun e=>?_) fun e=>?_
 ·have e:k=xs.length:=by have:=of_decide_eq_true (by simpa using e:decide ((k:Int)=(s.len:Int))=true);omega
  subst e;refine⟨_,hxr,AppP.own (ys:= [x]) hs rfl (by simp) rfl rfl (by omega) (by simp;omega) (hM _ (ao _)) fun s' h' ho hu=>hK s' h' ?_ hu⟩
  rw[bW,oM];exact ho
 have hlt:k<xs.length:=by
  rcases bN k xs.length with h|h
  ·exact h
  ·have:((k:Int)==(s.len:Int))=true:=by rw[beq_iff_eq];omega
   rw[this]at e;cases e
 rcases hs.blk with h0|⟨b,rest,ha,hb,hc,hr⟩
 ·omega
 have hA:((xs.take k).flatMap eC).length=k*2:=by rw[lR fO,aK,bA hkl]
 have hB:((xs.drop k).flatMap eC).length=(xs.length-k)*2:=by rw[lR fO,aS]
 have hbv:vb≠b:=fun e=>hvM (e▸hb)
 rw[za (f:=eC) xs k]at hc;have hins:(xs.take k++x::xs.drop k).flatMap eC=(xs.take k).flatMap eC++(eC x++(xs.drop k).flatMap eC):=by rw[bm,aO]
 have hone:=vf (xs.drop k);have hxl:(eC x).length=2:=rfl;have hx1:cj (eC x)=true:=rfl;generalize hAe:(xs.take k).flatMap eC=A at hA hc hins;generalize hBe:(xs.drop k).flatMap eC=B at hB hc hins hone;generalize eC x=X at hxr hxl hv hins hx1;rw[ha];have w1:IntKind.wrap .i64 ((xs.length:Int)+((1:Nat):Int))=((xs.length+1:Nat):Int):=by rw[jm (by omega)];omega
 have w2:IntKind.wrap .i64 ((k:Int)+((1:Nat):Int))=((k+1:Nat):Int):=by rw[jm (by omega)];omega
 have w3:IntKind.wrap .i64 (((xs.length+1:Nat):Int)-(k:Int))=((xs.length+1-k:Nat):Int):=by rw[jm (by omega)];omega
 simp only[w1,w2,w3,aP,hlen];refine aE (fun hgt=>?_) fun hle=>?_
 ·
  have hcl:s.cap=xs.length:=by omega
  refine Join.plain ⟨by omega,⟨by omega,by omega,by omega,by omega⟩,fun hin=>?_,fun hout=>?_⟩
  ·omega
  ·refine⟨A,_,?_,rfl,by omega,Go.growslice_fits hout (by omega),fun nc hnc=>?_⟩
   ·rw[sub_zero]
    exact lg hc (by rw[hA];omega) (by simp only[dE,fz];rw[aq,←hA,fi (ao _),bW])
   ·simp only[aP]at hnc⊢
    have kn:=Upd.hnew No h (A++dU (xs.length+1-k) [.string (⟨#[]⟩:ByteArray),.string (⟨#[]⟩:ByteArray)]++dU (nc-(k-0+(xs.length+1-k))) [.string (⟨#[]⟩:ByteArray),.string (⟨#[]⟩:ByteArray)]) ag;have bn:=bZ h (A++dU (xs.length+1-k) [.string (⟨#[]⟩:ByteArray),.string (⟨#[]⟩:ByteArray)]++dU (nc-(k-0+(xs.length+1-k))) [.string (⟨#[]⟩:ByteArray),.string (⟨#[]⟩:ByteArray)]) ag
    have hz1:(dU (xs.length+1-k) [.string (⟨#[]⟩:ByteArray),.string (⟨#[]⟩:ByteArray)]).length=(xs.length+1-k)*2:=kV _ _;have hz2:(dU (nc-(k-0+(xs.length+1-k))) [.string (⟨#[]⟩:ByteArray),.string (⟨#[]⟩:ByteArray)]).length=(nc-(k-0+(xs.length+1-k)))*2:=kV _ _;have hncl:k-0+(xs.length+1-k)=xs.length+1:=by omega
    rw[cM];have hsz:h.size≠vb:=fun e=>by have:=aJ hv;omega
    have hszb:h.size≠b:=fun e=>by have:=aJ hc;omega
    have hbc:=kn.get0 hc;have hvc:=kn.get0 hv;generalize hnew h _ ag=h9 at kn bn hbc hvc;rw[hncl]at hnc hz2⊢;have m1:dW 1 (xs.length+1-k)=1:=bA (by omega);have m2:dW (xs.length-k) (xs.length+1-(k+1))=xs.length-k:=bA (by omega);rw[m1];have xr9:SRow h9 (some ⟨vb,0,none⟩) (1*2) X:=lg hvc (by rw[hxl]) (by rw[dE,bw];rw[hxl];omega)
    refine⟨by omega,?_⟩;rw[jP (by omega)];refine j6 xr9 hx1 bn (by simp only[ac,hA,hz1];omega) fun h11 hb11 hu11=>⟨by omega,?_⟩
    simp only[Bd];rw[jP (by omega),jP (by omega),m2];refine⟨by omega,?_⟩;have hbc11:=hu11.get hbc (fun e=>hszb e.symm)
    have br:SRow h11 (some ⟨b,0+k*2,none⟩) ((xs.length-k)*2) B:=lg hbc11 hB (by
     rw[aD,aq,←hA,iC,←hB,iB])
    refine j6 br hone hb11 ?_ fun h16 hb16 hu16=>?_
    ·simp only[ac,aK,aS,hA,hz1,hxl];omega
    ·refine hK _ _ ⟨by simp;omega,fO,hnc,.inr ⟨h.size,dU (nc-(xs.length+1)) [.string (⟨#[]⟩:ByteArray),.string (⟨#[]⟩:ByteArray)],rfl,hM _ (ao _),?_,by rw[kV];rfl⟩⟩ ((kn.wide.trans (M':=(· =h.size)) hu11 fun b hb=>.inl (hb▸hM _ (ao _))).trans (M':=(· =h.size)) hu16 fun b hb=>.inl (hb▸hM _ (ao _)))
     rw[hb16,hins];have:=E6 (A:=A) (X:=X) (B:=B) (Z1:=dU (xs.length+1-k) [.string (⟨#[]⟩:ByteArray),.string (⟨#[]⟩:ByteArray)]) (Z2:=dU (nc-(xs.length+1)) [.string (⟨#[]⟩:ByteArray),.string (⟨#[]⟩:ByteArray)]) (r:=(xs.length-k)*2) hA hxl (by rw[hz1,←f9];congr 1;omega);rw[hncl,←this];simp only[aD,f9,pq]
 ·have hcl:xs.length+1≤s.cap:=by omega
  refine⟨by omega,?_⟩;simp only[Bd,fz];rw[sub_zero,jP (show s.cap≠k+1 by omega),jP (show s.cap≠k by omega)]
  refine⟨by omega,?_⟩;have hrl:2≤rest.length:=by rw[hr];exact nY _ (by omega)
  refine EX hv hc hbv (by rw[dB,ac];omega) ?_;refine aw.2 ⟨by omega,by omega,?_⟩
  have m1:dW 1 (xs.length+1-k)=1:=bA (by omega);have m2:dW (xs.length+1-k) (xs.length+1-(k+1))=xs.length-k:=by
   rw[show xs.length+1-(k+1)=xs.length-k by omega];exact jF (by omega)
  rw[m2];have br:SRow h (some ⟨b,0+k*2,none⟩) ((xs.length-k)*2) B:=lg hc hB (by
   rw[aD,aq,←hA,iC,←hB,iB])
  refine j6 br hone hc (by simp only[ac,hA,hB];omega) fun h1 hb1 hu1=>⟨by omega,?_⟩
  rw[m1];have xr1:SRow h1 (some ⟨vb,0,none⟩) (1*2) X:=lg (hu1.get hv hbv) (by rw[hxl]) (by rw[dE,bw];rw[hxl];omega);refine j6 xr1 hx1 hb1 (by simp only[ac,aK,aS,hA,hB];omega) fun h2 hb2 hu2=>?_
  refine hK _ _ ⟨by simp;omega,fO,hcl,.inr ⟨b,rest.drop 2,rfl,hb,?_,?_⟩⟩ ((hu1.mono fun _ e=>.inl (e▸hb)).tr (hu2.mono fun _ e=>.inl (e▸hb)))
  ·rw[hb2,hins]
   have:=I9 (A:=A) (X:=X) (B:=B) (R:=rest) (q:=2) (r:=(xs.length-k)*2) hA hB hrl;rw[←this];simp only[aD,f9,pq]
  ·rw[aS,hr]
   simp only;rw[hlen];omega
abbrev pz(x:Option Addr):List Value:= [.pointer x]
theorem py(x:Option Addr):(pz x).length=1∧0<1:=⟨rfl,by omega⟩
theorem AM:∀xs:List (Option Addr),cj (xs.flatMap pz)=true
 | []=>rfl
 |x::xs=>by rw[aO];exact jT rfl (AM xs)
theorem EY{h:ad}{vb b o la ca lb cb:Nat}{cv cw:Array Value}{tv tb:TypeId}(hv:h[vb]? =some (.cells cv tv (0,0))) (hb:h[b]? =some (.cells cw tb (0,0))) (hn:vb≠b) (h0:cw.size≠0) {K:Bool→ad→Prop} (hk:K false h):
  HC PG gF [.slice (some ⟨vb,0,none⟩) la ca,.slice (some ⟨b,o,none⟩) lb cb] [.c .bool] K h:=by
 refine⟨fun w hw=>.inr ⟨.bool false,w,?_,Tame.refl w,false,rfl,hw▸hk⟩⟩
 subst hw;rw[pn];have:=Lib.run_overlaps_apart (P:=PG) w pt rx bK (by kernel_rfl) (ce PG bK) (ph (by kernel_rfl)) ⟨vb,0,none⟩ ⟨b,o,none⟩ la ca lb cb hn tv tb cv.size cw.size
  (by simp[World.shape?,hv]) (by simp[World.shape?,hb]) h0 (by simp[World.frozen?,hv]) (by simp[World.frozen?,hv])
 rw[show([Value.slice (some ⟨vb,0,none⟩) la ca,Value.slice (some ⟨b,o,none⟩) lb cb]:List Value).toArray= #[.slice (some ⟨vb,0,none⟩) la ca,.slice (some ⟨b,o,none⟩) lb cb]from rfl,this]
 rfl
set_option maxRecDepth 4000 in
theorem I6{M:Nat→Prop}{h:ad}{s:SliceV}{xs:List (Option Addr)}(hs:OwnS pz 1 bK M h s xs){k:Nat}(hkl:k≤xs.length)(hn:(xs.length+1)*8≤140737488355328){x:Option Addr}{vb:Nat}(hv:h[vb]? =some (.cells (pz x).toArray bK (0,0)))
  (hvM:¬M vb) (hM:∀b,h.size≤b→M b) {K:SliceV→ad→Prop} (hK:∀s' h',OwnS pz 1 bK M h' s' (xs.take k++x::xs.drop k)→Upd M h h'→K s' h'):
  HC PG cK [.slice s.a s.len s.cap,.int .i64 k,.slice (some ⟨vb,0,none⟩) 1 1] [.c .slice] K h:=by
 refine j7 s k ⟨some ⟨vb,0,none⟩,1,1⟩ ?_;unfold f6;have hlen:=hs.len;have hcap:=hs.cap;have hxr:SRow h (some ⟨vb,0,none⟩) (1*1) (pz x):=⟨rfl,.inr ⟨_,rfl,oQ hv fun i v hi=>by simpa using hi⟩⟩
 refine⟨by omega,al.2 ?_⟩;refine CondP.intro (fun e=>?_) fun e=>?_
 ·have e:k=xs.length:=by have:=of_decide_eq_true (by simpa using e:decide ((k:Int)=(s.len:Int))=true);omega
  subst e;refine⟨_,hxr,AppP.own (ys:= [x]) hs rfl (by simp) rfl rfl (by omega) (by simp;omega) (hM _ (ao _)) fun s' h' ho hu=>hK s' h' ?_ hu⟩
  rw[bW,oM];exact ho
 have hlt:k<xs.length:=by
  rcases bN k xs.length with h|h
  ·exact h
  ·have:((k:Int)==(s.len:Int))=true:=by rw[beq_iff_eq];omega
   rw[this]at e;cases e
 rcases hs.blk with h0|⟨b,rest,ha,hb,hc,hr⟩
 ·omega
 have hA:((xs.take k).flatMap pz).length=k*1:=by rw[lR py,aK,bA hkl]
 have hB:((xs.drop k).flatMap pz).length=(xs.length-k)*1:=by rw[lR py,aS]
 have hbv:vb≠b:=fun e=>hvM (e▸hb)
 rw[za (f:=pz) xs k]at hc;have hins:(xs.take k++x::xs.drop k).flatMap pz=(xs.take k).flatMap pz++(pz x++(xs.drop k).flatMap pz):=by rw[bm,aO]
 have hone:=AM (xs.drop k);have hxl:(pz x).length=1:=rfl;have hx1:cj (pz x)=true:=rfl;generalize hAe:(xs.take k).flatMap pz=A at hA hc hins;generalize hBe:(xs.drop k).flatMap pz=B at hB hc hins hone;generalize pz x=X at hxr hxl hv hins hx1;rw[ha];have w1:IntKind.wrap .i64 ((xs.length:Int)+((1:Nat):Int))=((xs.length+1:Nat):Int):=by rw[jm (by omega)];omega
 have w2:IntKind.wrap .i64 ((k:Int)+((1:Nat):Int))=((k+1:Nat):Int):=by rw[jm (by omega)];omega
 have w3:IntKind.wrap .i64 (((xs.length+1:Nat):Int)-(k:Int))=((xs.length+1-k:Nat):Int):=by rw[jm (by omega)];omega
 simp only[w1,w2,w3,aP,hlen];refine aE (fun hgt=>?_) fun hle=>?_
 ·
  have hcl:s.cap=xs.length:=by omega
  refine Join.plain ⟨by omega,⟨by omega,by omega,by omega,by omega⟩,fun hin=>?_,fun hout=>?_⟩
  ·omega
  ·refine⟨A,_,?_,rfl,by omega,Go.growslice_fits hout (by omega),fun nc hnc=>?_⟩
   ·rw[sub_zero]
    exact lg hc (by rw[hA];omega) (by simp only[dE,fz];rw[aq,←hA,fi (ao _),bW])
   ·simp only[aP]at hnc⊢
    have kn:=Upd.hnew No h (A++dU (xs.length+1-k) [.pointer none]++dU (nc-(k-0+(xs.length+1-k))) [.pointer none]) bK;have bn:=bZ h (A++dU (xs.length+1-k) [.pointer none]++dU (nc-(k-0+(xs.length+1-k))) [.pointer none]) bK;have hz1:(dU (xs.length+1-k) [.pointer none]).length=(xs.length+1-k)*1:=kV _ _;have hz2:(dU (nc-(k-0+(xs.length+1-k))) [.pointer none]).length=(nc-(k-0+(xs.length+1-k)))*1:=kV _ _
    have hncl:k-0+(xs.length+1-k)=xs.length+1:=by omega
    rw[cM];have hsz:h.size≠vb:=fun e=>by have:=aJ hv;omega
    have hszb:h.size≠b:=fun e=>by have:=aJ hc;omega
    have hbc:=kn.get0 hc;have hvc:=kn.get0 hv;generalize hnew h _ bK=h9 at kn bn hbc hvc;rw[hncl]at hnc hz2⊢;have m1:dW 1 (xs.length+1-k)=1:=bA (by omega);have m2:dW (xs.length-k) (xs.length+1-(k+1))=xs.length-k:=bA (by omega);rw[m1];have xr9:SRow h9 (some ⟨vb,0,none⟩) (1*1) X:=lg hvc (by rw[hxl]) (by rw[dE,bw];rw[hxl];omega)
    refine⟨by omega,?_⟩;rw[jP (by omega)];refine j6 xr9 hx1 bn (by simp only[ac,hA,hz1];omega) fun h11 hb11 hu11=>⟨by omega,?_⟩
    simp only[Bd];rw[jP (by omega),jP (by omega),m2];refine⟨by omega,?_⟩;have hbc11:=hu11.get hbc (fun e=>hszb e.symm)
    have br:SRow h11 (some ⟨b,0+k*1,none⟩) ((xs.length-k)*1) B:=lg hbc11 hB (by
     rw[aD,aq,←hA,iC,←hB,iB])
    refine j6 br hone hb11 ?_ fun h16 hb16 hu16=>?_
    ·simp only[ac,aK,aS,hA,hz1,hxl];omega
    ·refine hK _ _ ⟨by simp;omega,py,hnc,.inr ⟨h.size,dU (nc-(xs.length+1)) [.pointer none],rfl,hM _ (ao _),?_,by rw[kV];rfl⟩⟩ ((kn.wide.trans (M':=(· =h.size)) hu11 fun b hb=>.inl (hb▸hM _ (ao _))).trans (M':=(· =h.size)) hu16 fun b hb=>.inl (hb▸hM _ (ao _)))
     rw[hb16,hins];have:=E6 (A:=A) (X:=X) (B:=B) (Z1:=dU (xs.length+1-k) [.pointer none]) (Z2:=dU (nc-(xs.length+1)) [.pointer none]) (r:=(xs.length-k)*1) hA hxl (by rw[hz1,←f9];congr 1;omega);rw[hncl,←this];simp only[aD,f9,pq]
 ·have hcl:xs.length+1≤s.cap:=by omega
  refine⟨by omega,?_⟩;simp only[Bd,fz];rw[sub_zero,jP (show s.cap≠k+1 by omega),jP (show s.cap≠k by omega)]
  refine⟨by omega,?_⟩;have hrl:1≤rest.length:=by rw[hr];exact nY _ (by omega)
  refine EY hv hc hbv (by rw[dB,ac];omega) ?_;refine aw.2 ⟨by omega,by omega,?_⟩
  have m1:dW 1 (xs.length+1-k)=1:=bA (by omega);have m2:dW (xs.length+1-k) (xs.length+1-(k+1))=xs.length-k:=by
   rw[show xs.length+1-(k+1)=xs.length-k by omega];exact jF (by omega)
  rw[m2];have br:SRow h (some ⟨b,0+k*1,none⟩) ((xs.length-k)*1) B:=lg hc hB (by
   rw[aD,aq,←hA,iC,←hB,iB])
  refine j6 br hone hc (by simp only[ac,hA,hB];omega) fun h1 hb1 hu1=>⟨by omega,?_⟩
  rw[m1];have xr1:SRow h1 (some ⟨vb,0,none⟩) (1*1) X:=lg (hu1.get hv hbv) (by rw[hxl]) (by rw[dE,bw];rw[hxl];omega);refine j6 xr1 hx1 hb1 (by simp only[ac,aK,aS,hA,hB];omega) fun h2 hb2 hu2=>?_
  refine hK _ _ ⟨by simp;omega,py,hcl,.inr ⟨b,rest.drop 1,rfl,hb,?_,?_⟩⟩ ((hu1.mono fun _ e=>.inl (e▸hb)).tr (hu2.mono fun _ e=>.inl (e▸hb)))
  ·rw[hb2,hins]
   have:=I9 (A:=A) (X:=X) (B:=B) (R:=rest) (q:=1) (r:=(xs.length-k)*1) hA hB hrl;rw[←this];simp only[aD,f9,pq]
  ·rw[aS,hr]
   simp only;rw[hlen];omega
abbrev ul(x:Option Addr):List Value:= [.pointer x]
theorem pv(x:Option Addr):(ul x).length=1∧0<1:=⟨rfl,by omega⟩
theorem EZ:∀xs:List (Option Addr),cj (xs.flatMap ul)=true
 | []=>rfl
 |x::xs=>by rw[aO];exact jT rfl (EZ xs)
theorem EW{h:ad}{vb b o la ca lb cb:Nat}{cv cw:Array Value}{tv tb:TypeId}(hv:h[vb]? =some (.cells cv tv (0,0))) (hb:h[b]? =some (.cells cw tb (0,0))) (hn:vb≠b) (h0:cw.size≠0) {K:Bool→ad→Prop} (hk:K false h):
  HC PG gm [.slice (some ⟨vb,0,none⟩) la ca,.slice (some ⟨b,o,none⟩) lb cb] [.c .bool] K h:=by
 refine⟨fun w hw=>.inr ⟨.bool false,w,?_,Tame.refl w,false,rfl,hw▸hk⟩⟩
 subst hw;rw[oF];have:=Lib.run_overlaps_apart (P:=PG) w ox rx bQ (by kernel_rfl) (ce PG bQ) (ph (by kernel_rfl)) ⟨vb,0,none⟩ ⟨b,o,none⟩ la ca lb cb hn tv tb cv.size cw.size
  (by simp[World.shape?,hv]) (by simp[World.shape?,hb]) h0 (by simp[World.frozen?,hv]) (by simp[World.frozen?,hv])
 rw[show([Value.slice (some ⟨vb,0,none⟩) la ca,Value.slice (some ⟨b,o,none⟩) lb cb]:List Value).toArray= #[.slice (some ⟨vb,0,none⟩) la ca,.slice (some ⟨b,o,none⟩) lb cb]from rfl,this]
 rfl
set_option maxRecDepth 4000 in
theorem IZ{M:Nat→Prop}{h:ad}{s:SliceV}{xs:List (Option Addr)}(hs:OwnS ul 1 bQ M h s xs){k:Nat}(hkl:k≤xs.length)(hn:(xs.length+1)*8≤140737488355328){x:Option Addr}{vb:Nat}(hv:h[vb]? =some (.cells (ul x).toArray bQ (0,0)))
  (hvM:¬M vb) (hM:∀b,h.size≤b→M b) {K:SliceV→ad→Prop} (hK:∀s' h',OwnS ul 1 bQ M h' s' (xs.take k++x::xs.drop k)→Upd M h h'→K s' h'):
  HC PG d9 [.slice s.a s.len s.cap,.int .i64 k,.slice (some ⟨vb,0,none⟩) 1 1] [.c .slice] K h:=by
 refine jH s k ⟨some ⟨vb,0,none⟩,1,1⟩ ?_;unfold fQ;have hlen:=hs.len;have hcap:=hs.cap;have hxr:SRow h (some ⟨vb,0,none⟩) (1*1) (ul x):=⟨rfl,.inr ⟨_,rfl,oQ hv fun i v hi=>by simpa using hi⟩⟩
 refine⟨by omega,al.2 ?_⟩;refine CondP.intro (fun e=>?_) fun e=>?_
 ·have e:k=xs.length:=by have:=of_decide_eq_true (by simpa using e:decide ((k:Int)=(s.len:Int))=true);omega
  subst e;refine⟨_,hxr,AppP.own (ys:= [x]) hs rfl (by simp) rfl rfl (by omega) (by simp;omega) (hM _ (ao _)) fun s' h' ho hu=>hK s' h' ?_ hu⟩
  rw[bW,oM];exact ho
 have hlt:k<xs.length:=by
  rcases bN k xs.length with h|h
  ·exact h
  ·have:((k:Int)==(s.len:Int))=true:=by rw[beq_iff_eq];omega
   rw[this]at e;cases e
 rcases hs.blk with h0|⟨b,rest,ha,hb,hc,hr⟩
 ·omega
 have hA:((xs.take k).flatMap ul).length=k*1:=by rw[lR pv,aK,bA hkl]
 have hB:((xs.drop k).flatMap ul).length=(xs.length-k)*1:=by rw[lR pv,aS]
 have hbv:vb≠b:=fun e=>hvM (e▸hb)
 rw[za (f:=ul) xs k]at hc;have hins:(xs.take k++x::xs.drop k).flatMap ul=(xs.take k).flatMap ul++(ul x++(xs.drop k).flatMap ul):=by rw[bm,aO]
 have hone:=EZ (xs.drop k);have hxl:(ul x).length=1:=rfl;have hx1:cj (ul x)=true:=rfl;generalize hAe:(xs.take k).flatMap ul=A at hA hc hins;generalize hBe:(xs.drop k).flatMap ul=B at hB hc hins hone;generalize ul x=X at hxr hxl hv hins hx1;rw[ha];have w1:IntKind.wrap .i64 ((xs.length:Int)+((1:Nat):Int))=((xs.length+1:Nat):Int):=by rw[jm (by omega)];omega
 have w2:IntKind.wrap .i64 ((k:Int)+((1:Nat):Int))=((k+1:Nat):Int):=by rw[jm (by omega)];omega
 have w3:IntKind.wrap .i64 (((xs.length+1:Nat):Int)-(k:Int))=((xs.length+1-k:Nat):Int):=by rw[jm (by omega)];omega
 simp only[w1,w2,w3,aP,hlen];refine aE (fun hgt=>?_) fun hle=>?_
 ·
  have hcl:s.cap=xs.length:=by omega
  refine Join.plain ⟨by omega,⟨by omega,by omega,by omega,by omega⟩,fun hin=>?_,fun hout=>?_⟩
  ·omega
  ·refine⟨A,_,?_,rfl,by omega,Go.growslice_fits hout (by omega),fun nc hnc=>?_⟩
   ·rw[sub_zero]
    exact lg hc (by rw[hA];omega) (by simp only[dE,fz];rw[aq,←hA,fi (ao _),bW])
   ·simp only[aP]at hnc⊢
    have kn:=Upd.hnew No h (A++dU (xs.length+1-k) [.pointer none]++dU (nc-(k-0+(xs.length+1-k))) [.pointer none]) bQ;have bn:=bZ h (A++dU (xs.length+1-k) [.pointer none]++dU (nc-(k-0+(xs.length+1-k))) [.pointer none]) bQ;have hz1:(dU (xs.length+1-k) [.pointer none]).length=(xs.length+1-k)*1:=kV _ _;have hz2:(dU (nc-(k-0+(xs.length+1-k))) [.pointer none]).length=(nc-(k-0+(xs.length+1-k)))*1:=kV _ _
    have hncl:k-0+(xs.length+1-k)=xs.length+1:=by omega
    rw[cM];have hsz:h.size≠vb:=fun e=>by have:=aJ hv;omega
    have hszb:h.size≠b:=fun e=>by have:=aJ hc;omega
    have hbc:=kn.get0 hc;have hvc:=kn.get0 hv;generalize hnew h _ bQ=h9 at kn bn hbc hvc;rw[hncl]at hnc hz2⊢;have m1:dW 1 (xs.length+1-k)=1:=bA (by omega);have m2:dW (xs.length-k) (xs.length+1-(k+1))=xs.length-k:=bA (by omega);rw[m1];have xr9:SRow h9 (some ⟨vb,0,none⟩) (1*1) X:=lg hvc (by rw[hxl]) (by rw[dE,bw];rw[hxl];omega)
    refine⟨by omega,?_⟩;rw[jP (by omega)];refine j6 xr9 hx1 bn (by simp only[ac,hA,hz1];omega) fun h11 hb11 hu11=>⟨by omega,?_⟩
    simp only[Bd];rw[jP (by omega),jP (by omega),m2];refine⟨by omega,?_⟩;have hbc11:=hu11.get hbc (fun e=>hszb e.symm)
    have br:SRow h11 (some ⟨b,0+k*1,none⟩) ((xs.length-k)*1) B:=lg hbc11 hB (by
     rw[aD,aq,←hA,iC,←hB,iB])
    refine j6 br hone hb11 ?_ fun h16 hb16 hu16=>?_
    ·simp only[ac,aK,aS,hA,hz1,hxl];omega
    ·refine hK _ _ ⟨by simp;omega,pv,hnc,.inr ⟨h.size,dU (nc-(xs.length+1)) [.pointer none],rfl,hM _ (ao _),?_,by rw[kV];rfl⟩⟩ ((kn.wide.trans (M':=(· =h.size)) hu11 fun b hb=>.inl (hb▸hM _ (ao _))).trans (M':=(· =h.size)) hu16 fun b hb=>.inl (hb▸hM _ (ao _)))
     rw[hb16,hins];have:=E6 (A:=A) (X:=X) (B:=B) (Z1:=dU (xs.length+1-k) [.pointer none]) (Z2:=dU (nc-(xs.length+1)) [.pointer none]) (r:=(xs.length-k)*1) hA hxl (by rw[hz1,←f9];congr 1;omega);rw[hncl,←this];simp only[aD,f9,pq]
 ·have hcl:xs.length+1≤s.cap:=by omega
  refine⟨by omega,?_⟩;simp only[Bd,fz];rw[sub_zero,jP (show s.cap≠k+1 by omega),jP (show s.cap≠k by omega)]
  refine⟨by omega,?_⟩;have hrl:1≤rest.length:=by rw[hr];exact nY _ (by omega)
  refine EW hv hc hbv (by rw[dB,ac];omega) ?_;refine aw.2 ⟨by omega,by omega,?_⟩
  have m1:dW 1 (xs.length+1-k)=1:=bA (by omega);have m2:dW (xs.length+1-k) (xs.length+1-(k+1))=xs.length-k:=by
   rw[show xs.length+1-(k+1)=xs.length-k by omega];exact jF (by omega)
  rw[m2];have br:SRow h (some ⟨b,0+k*1,none⟩) ((xs.length-k)*1) B:=lg hc hB (by
   rw[aD,aq,←hA,iC,←hB,iB])
  refine j6 br hone hc (by simp only[ac,hA,hB];omega) fun h1 hb1 hu1=>⟨by omega,?_⟩
  rw[m1];have xr1:SRow h1 (some ⟨vb,0,none⟩) (1*1) X:=lg (hu1.get hv hbv) (by rw[hxl]) (by rw[dE,bw];rw[hxl];omega);refine j6 xr1 hx1 hb1 (by simp only[ac,aK,aS,hA,hB];omega) fun h2 hb2 hu2=>?_
  refine hK _ _ ⟨by simp;omega,pv,hcl,.inr ⟨b,rest.drop 1,rfl,hb,?_,?_⟩⟩ ((hu1.mono fun _ e=>.inl (e▸hb)).tr (hu2.mono fun _ e=>.inl (e▸hb)))
  ·rw[hb2,hins]
   have:=I9 (A:=A) (X:=X) (B:=B) (R:=rest) (q:=1) (r:=(xs.length-k)*1) hA hB hrl;rw[←this];simp only[aD,f9,pq]
  ·rw[aS,hr]
   simp only;rw[hlen];omega
end Go.Proofs
