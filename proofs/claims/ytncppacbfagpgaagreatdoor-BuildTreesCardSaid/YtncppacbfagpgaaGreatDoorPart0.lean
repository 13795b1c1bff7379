/- A part of the proof that the named laws of this program answer true, whatever the input. -/
import Derived.Test.YtncppacbfagpgaaGreatDoorTreeF0
import Derived.Test.YtncppacbfagpgaaGreatDoorTreeF1
import Derived.Test.YtncppacbfagpgaaGreatDoorLaw0
import Derived.Test.YtncppacbfagpgaaGreatDoorLift3
import Derived.Lib.Overlaps
import Derived.Sort.Walk0
open BitVec renaming ofInt→af
open Bool renaming and_eq_true→aY
open ByteArray renaming size_extract→eH
open Int renaming fdiv→dE,toNat_natCast→aM
open List renaming length_append→ac,filter_append→fa,mem_filter→fB,append_nil→aE,nil_append→cd,mem_cons_self→au,pairwise_append→cK,append_assoc→ao,mem_singleton→aJ,pairwise_cons→aS,mem_cons→az,mem_append→bP,length_eq_zero_iff→aq,mem_cons_of_mem→aH,append_eq_nil_iff→ng,append_cancel_left→mE,length→dX,length_cons→ap,drop_succ_cons→iU,flatMap_cons→aN,take_length→bQ,drop_length→lq,length_take→aD,length_drop→aV,flatMap_append→bC,drop_zero→dB,take_append_of_le_length→f5,take_of_length_le→bj,drop_left→jd,take_left→i6,size_toArray→dM,drop_eq_getElem_cons→dN,drop_left'→cG,take_left'→dy,drop_drop→dK,drop_append_of_le_length→f6,getElem?_eq_getElem→ae
open List.Pairwise renaming nil→gk
open Nat renaming zero_le→aK,zero_add→aR,sub_self→cO,le_refl→ag,lt_or_ge→cf,min_eq_left→bL,sub_zero→eT,min→fl,add_one_mul→jM,zero_mul→r6
open Option renaming isSome_iff_exists→fT
open UInt8 renaming toNat_inj→jL
namespace Go.Proofs
structure WO{α:Type}(lt:α→α→Bool):Prop where
 irr:∀a,lt a a=false
 asy:∀a b,lt a b=true→lt b a=false
 ntr:∀a b c,lt a b=false→lt b c=false→lt a c=false
section
variable {α:Type} {lt:α→α→Bool}
def EB(lt:α→α→Bool)(x a:α):Bool:= !lt a x&& !lt x a
def Srt(lt:α→α→Bool)(l:List α):Prop:=l.Pairwise fun a b=>lt b a=false
structure Eqf(lt:α→α→Bool)(l l':List α):Prop where
 len:l'.length=l.length
 flt:∀x,l'.filter (EB lt x)=l.filter (EB lt x)
structure St(lt:α→α→Bool)(l l':List α):Prop where
 eqf:Eqf lt l l'
 srt:Srt lt l'
theorem Eqf.rfl(l:List α):Eqf lt l l:=⟨_root_.rfl,fun _=>_root_.rfl⟩
theorem Eqf.tr{a b c:List α}(h:Eqf lt a b)(k:Eqf lt b c):Eqf lt a c:=⟨k.len.trans h.len,fun x=>(k.flt x).trans (h.flt x)⟩
theorem Eqf.app{a b a' b':List α}(h:Eqf lt a a')(k:Eqf lt b b'):Eqf lt (a++b) (a'++b'):=
 ⟨by rw[ac,ac,h.len,k.len],fun x=>by rw[fa,fa,h.flt,k.flt]⟩
theorem Gf(w:WO lt)(a:α):EB lt a a=true:=by unfold EB;rw[w.irr];rfl
theorem Eqf.mem(w:WO lt){l l':List α}(h:Eqf lt l l'){a:α}:a∈l'↔a∈l:=by
 have e:=h.flt a;constructor
 ·intro hm
  have:a∈l'.filter (EB lt a):=fB.2 ⟨hm,Gf w a⟩;rw[e]at this;exact(fB.1 this).1
 ·intro hm
  have:a∈l.filter (EB lt a):=fB.2 ⟨hm,Gf w a⟩;rw[←e]at this;exact(fB.1 this).1
theorem Of(w:WO lt){x u v:α}(hu:EB lt x u=true)(hv:EB lt x v=true):lt v u=false:=by
 unfold EB at hu hv;simp only[aY,Bool.not_eq_true']at hu hv;exact w.ntr v x u hv.1 hu.2
theorem Eqf.swap(w:WO lt){U V:List α}(h:∀u∈U,∀v∈V,lt v u=true):Eqf lt (U++V) (V++U):=by
 refine⟨by rw[ac,ac,Nat.add_comm],fun x=>?_⟩
 rw[fa,fa];cases hU:U.filter (EB lt x)with
 |nil=>rw[aE,cd]
 |cons u us=>
  cases hV:V.filter (EB lt x)with
  |nil=>rw[aE,cd]
  |cons v vs=>
   have hu:u∈U.filter (EB lt x):=by rw[hU];exact au ..
   have hv:v∈V.filter (EB lt x):=by rw[hV];exact au ..
   have h1:=fB.1 hu;have h2:=fB.1 hv;have h3:=h u h1.1 v h2.1;rw[Of w h1.2 h2.2]at h3;cases h3
theorem Srt.app{a b:List α}(h:Srt lt a)(k:Srt lt b)(hab:∀x∈a,∀y∈b,lt y x=false):Srt lt (a++b):=cK.2 ⟨h,k,hab⟩
theorem Srt.left{a b:List α}(h:Srt lt (a++b)):Srt lt a:=(cK.1 h).1
theorem Srt.right{a b:List α}(h:Srt lt (a++b)):Srt lt b:=(cK.1 h).2.1
theorem Srt.cross{a b:List α}(h:Srt lt (a++b)):∀x∈a,∀y∈b,lt y x=false:=(cK.1 h).2.2
theorem Srt.nil:Srt lt ([]:List α):=gk
theorem Srt.one(a:α):Srt lt [a]:=List.pairwise_singleton ..
theorem G4(w:WO lt){S L G:List α}{t:α}(h:St lt S (L++G))(hL:∀l∈L,lt t l=false)(hG:∀g∈G,lt t g=true):St lt (S++ [t]) (L++t::G):=by
 refine⟨(h.eqf.app (Eqf.rfl [t])).tr ?_,?_⟩
 ·rw[ao]
  exact(Eqf.rfl L).app (Eqf.swap w (U:=G) (V:= [t]) fun u hu v hv=>by rw[aJ.1 hv];exact hG u hu)
 ·refine h.srt.left.app (aS.2 ⟨fun g hg=>w.asy t g (hG g hg),h.srt.right⟩) fun x hx y hy=>?_
  rcases az.1 hy with rfl|hy
  ·exact hL x hx
  ·exact h.srt.cross x hx y hy
theorem wt(w:WO lt){V1 V2:List α}{u:α}(h:Srt lt (V1++V2))(h1:∀v∈V1,lt v u=true)(h2:∀v∈V2,lt v u=false):St lt ([u]++(V1++V2)) (V1++u::V2):=by
 refine⟨?_,?_⟩
 ·rw[←ao]
  have:=(Eqf.swap w (U:= [u]) (V:=V1) fun x hx y hy=>by rw[aJ.1 hx];exact h1 y hy).app (Eqf.rfl V2)
  rw[ao V1]at this;exact this
 ·refine h.left.app (aS.2 ⟨h2,h.right⟩) fun x hx y hy=>?_
  rcases az.1 hy with rfl|hy
  ·exact w.asy x y (h1 x hx)
  ·exact h.cross x hx y hy
theorem yN(w:WO lt){U1 U2:List α}{v:α}(h:Srt lt (U1++U2))(h1:∀u∈U1,lt v u=false)(h2:∀u∈U2,lt v u=true):St lt ((U1++U2)++ [v]) (U1++v::U2):=
 G4 w ⟨Eqf.rfl _,h⟩ h1 h2
theorem C1(w:WO lt){U1 U2 V1 V2 R1 R2:List α}(hU:Srt lt (U1++U2))(hV:Srt lt (V1++V2))(h1:∀v∈V1,∀u∈U2,lt v u=true)(h2:∀u∈U1,∀v∈V2,lt v u=false)(s1:St lt (U1++V1) R1)(s2:St lt (U2++V2) R2):St lt ((U1++U2)++(V1++V2)) (R1++R2):=by
 refine⟨?_,s1.srt.app s2.srt fun x hx y hy=>?_⟩
 ·have e:Eqf lt ((U1++U2)++(V1++V2)) ((U1++V1)++(U2++V2)):=by
   have:=((Eqf.rfl U1).app (Eqf.swap w (U:=U2) (V:=V1) fun u hu v hv=>h1 v hv u hu)).app (Eqf.rfl (lt:=lt) V2)
   simp only[ao]at this⊢;exact this
  exact e.tr (s1.eqf.app s2.eqf)
 ·rcases bP.1 ((s1.eqf.mem w).1 hx)with hx|hx<;>rcases bP.1 ((s2.eqf.mem w).1 hy)with hy|hy
  ·exact hU.cross x hx y hy
  ·exact h2 x hx y hy
  ·exact w.asy x y (h1 x hx y hy)
  ·exact hV.cross x hx y hy
inductive Runs(lt:α→α→Bool)(bs:Nat):List α→Prop where
 |last (l:List α):l.length≤bs→Srt lt l→Runs lt bs l
 |more (b l:List α):b.length=bs→Srt lt b→Runs lt bs l→Runs lt bs (b++l)
theorem Runs.split{bs:Nat}{l:List α}(h:Runs lt bs l)(hl:bs≤l.length):∃b r,l=b++r∧b.length=bs∧Srt lt b∧Runs lt bs r:=by
 cases h with
 |last _ h1 h2=>exact⟨l,[],(aE l).symm,by omega,h2,.last _ (aK _) Srt.nil⟩
 |more b r h1 h2 h3=>exact⟨b,r,_root_.rfl,h1,h2,h3⟩
theorem Runs.short{bs:Nat}{l:List α}(h:Runs lt bs l)(hl:l.length≤bs):Srt lt l:=by
 cases h with
 |last _ h1 h2=>exact h2
 |more b r h1 h2 h3=>
  rw[ac]at hl;have:r= []:=aq.1 (by omega);rw[this,aE];exact h2
def Full(lt:α→α→Bool)(bs:Nat)(d:List α):Prop:=∀z,Runs lt bs z→Runs lt bs (d++z)
theorem Full.nil{bs:Nat}:Full lt bs ([]:List α):=fun _ h=>h
theorem Full.app{bs:Nat}{d b:List α}(h:Full lt bs d)(hb:b.length=bs)(hs:Srt lt b):Full lt bs (d++b):=fun z hz=>by
 rw[ao];exact h _ (.more b z hb hs hz)
end
end Go.Proofs
namespace Go.Proofs
inductive Fo where
 |nil:Fo
 |cons (lab:List UInt8) (val:Option ByteArray) (kids rest:Fo):Fo
abbrev Bn:=List UInt8×Option ByteArray×Fo
def Fo.toL:Fo→List Bn
 | .nil=> []
 | .cons lab w kids rest=>(lab,w,kids)::rest.toL
theorem Fo.toL_cons(lab:List UInt8)(w:Option ByteArray)(kids rest:Fo):(Fo.cons lab w kids rest).toL=(lab,w,kids)::rest.toL:=rfl
def Fo.ofL:List Bn→Fo
 | []=>.nil
 |(lab,w,kids)::l=>.cons lab w kids (Fo.ofL l)
theorem Fo.to_of:∀l:List Bn,(Fo.ofL l).toL=l
 | []=>rfl
 |(_,_,_)::l=>by show _::(Fo.ofL l).toL=_;rw[Fo.to_of l]
def y9:Fo→List UInt8→ByteArray→Prop
 | .nil,_,_=>False
 | .cons lab w kids rest,k,v=>(∃r,k=lab++r∧((r= []∧w=some v)∨y9 kids r v))∨y9 rest k v
def Gn(w:Option ByteArray)(F:Fo)(k:List UInt8)(v:ByteArray):Prop:=(k= []∧w=some v)∨y9 F k v
def Il(n:Bn)(k:List UInt8)(v:ByteArray):Prop:=∃r,k=n.1++r∧Gn n.2.1 n.2.2 r v
theorem j1:∀{F:Fo} {k:List UInt8} {v:ByteArray},y9 F k v↔∃n∈F.toL,Il n k v
 | .nil,_,_=>by simp[y9,Fo.toL]
 | .cons lab w kids rest,k,v=>by
  rw[Fo.toL_cons];unfold y9;rw[j1 (F:=rest)];constructor
  ·rintro(h|⟨n,hn,h⟩)
   ·exact⟨_,au ..,h⟩
   ·exact⟨n,aH _ hn,h⟩
  ·rintro⟨n,hn,h⟩
   rcases az.1 hn with rfl|hn
   ·exact .inl h
   ·exact .inr ⟨n,hn,h⟩
def hd(k:List UInt8):Nat:=(k.headD 0).toNat
theorem vC{a b:List UInt8}(h:a≠[]):hd (a++b)=hd a:=by
 cases a with
 |nil=>exact absurd rfl h
 |cons x a=>rfl
theorem P1(a:List UInt8):hd a<256:=UInt8.toNat_lt _
def jA:Fo→Prop
 | .nil=>True
 | .cons lab w kids rest=>lab≠[]∧(w.isSome∨2≤kids.toL.length)∧jA kids∧(∀n∈rest.toL,hd lab<hd n.1)∧jA rest
def II(n:Bn):Prop:=n.1≠[]∧(n.2.1.isSome∨2≤n.2.2.toL.length)∧jA n.2.2
theorem lO:∀{F:Fo},jA F↔F.toL.Pairwise (fun m n=>hd m.1<hd n.1)∧∀n∈F.toL,II n
 | .nil=>by simp[jA,Fo.toL]
 | .cons lab w kids rest=>by
  rw[Fo.toL_cons,aS];show(lab≠[]∧(w.isSome∨2≤kids.toL.length)∧jA kids∧(∀n∈rest.toL,hd lab<hd n.1)∧jA rest)↔_
  rw[lO (F:=rest)];constructor
  ·rintro⟨h1,h2,h3,h4,h5,h6⟩
   refine⟨⟨h4,h5⟩,fun n hn=>?_⟩
   rcases az.1 hn with rfl|hn
   ·exact⟨h1,h2,h3⟩
   ·exact h6 n hn
  ·rintro⟨⟨h4,h5⟩,h6⟩
   have:=h6 _ (au ..);exact⟨this.1,this.2.1,this.2.2,h4,h5,fun n hn=>h6 n (aH _ hn)⟩
theorem ol:∀{F:Fo},jA F→∀n∈F.toL,∃r v,Gn n.2.1 n.2.2 r v
 | .nil,_,n,hn=>by simp[Fo.toL]at hn
 | .cons lab w kids rest,h,n,hn=>by
  rcases az.1 hn with rfl|hn
  ·rcases h.2.1 with hw|hk
   ·obtain⟨v,hv⟩:=fT.1 hw
    exact⟨[],v,.inl ⟨rfl,hv⟩⟩
   ·have ih:=ol h.2.2.1
    have⟨m,hm⟩:∃m,m∈kids.toL:=by
     cases hl:kids.toL with
     |nil=>rw[hl]at hk;simp at hk
     |cons m l=>exact⟨m,au ..⟩
    obtain⟨r,v,hr⟩:=ih m hm;exact⟨m.1++r,v,.inr (j1.2 ⟨m,hm,r,rfl,hr⟩)⟩
  ·exact ol h.2.2.2.2 n hn
theorem qI{F:Fo}(h:jA F){k:List UInt8}{v:ByteArray}(hi:y9 F k v):k≠[]:=by
 obtain⟨n,hn,r,rfl,_⟩:=j1.1 hi;have:=((lO.1 h).2 n hn).1;intro e;exact this (ng.1 e).1
theorem vB{F:Fo}(h:jA F){k:List UInt8}{v:ByteArray}(hi:y9 F k v):∃n∈F.toL,hd n.1=hd k∧Il n k v:=by
 obtain⟨n,hn,r,e,hr⟩:=j1.1 hi;exact⟨n,hn,by rw[e,vC ((lO.1 h).2 n hn).1],r,e,hr⟩
theorem Oi{F:Fo}(h:jA F){m n:Bn}(hm:m∈F.toL)(hn:n∈F.toL)(e:hd m.1=hd n.1):m=n:=by
 have hp:=(lO.1 h).1;revert hm hn;generalize F.toL=l at*;clear h;induction l with
 |nil=>intro hm;simp at hm
 |cons a l ih=>
  have hp:=aS.1 hp;intro hm hn;rcases az.1 hm with e1|hm1
  ·rcases az.1 hn with e2|hn1
   ·rw[e1,e2]
   ·have:=hp.1 n hn1;rw[←e1]at this;omega
  ·rcases az.1 hn with e2|hn1
   ·have:=hp.1 m hm1;rw[←e2]at this;omega
   ·exact ih hp.2 hm1 hn1
def Br(P:List UInt8→ByteArray→Prop):Prop:=(∃v,P [] v)∨∃j k u v,P j u∧P k v∧j≠[]∧k≠[]∧hd j≠hd k
theorem Ic{w:Option ByteArray}{F:Fo}(h:jA F):(w.isSome∨2≤F.toL.length)↔Br (Gn w F):=by
 constructor
 ·rintro(hw|hl)
  ·obtain⟨v,hv⟩:=fT.1 hw
   exact .inl ⟨v,.inl ⟨rfl,hv⟩⟩
  ·right
   have hs:=ol h;have hc:=lO.1 h;match hL:F.toL,hl with
   |a::b::l,_=>
    have ha:a∈F.toL:=by rw[hL];simp
    have hb:b∈F.toL:=by rw[hL];simp
    obtain⟨r,v,hr⟩:=hs a ha;obtain⟨s,u,hs⟩:=hs b hb;have h1:=(hc.2 a ha).1;have h2:=(hc.2 b hb).1;have:=hc.1;rw[hL]at this;have h3:=(aS.1 this).1 b (au ..);refine⟨a.1++r,b.1++s,v,u,.inr (j1.2 ⟨a,ha,r,rfl,hr⟩),.inr (j1.2 ⟨b,hb,s,rfl,hs⟩),?_,?_,?_⟩
    ·intro e;exact h1 (ng.1 e).1
    ·intro e;exact h2 (ng.1 e).1
    ·rw[vC h1,vC h2];omega
 ·rintro(⟨v,hv⟩|⟨j,k,u,v,hj,hk,nj,nk,hne⟩)
  ·rcases hv with⟨_,hv⟩|hv
   ·left;rw[hv];rfl
   ·exact absurd rfl (qI h hv)
  ·right
   rcases hj with⟨e,_⟩|hj
   ·exact absurd e nj
   rcases hk with⟨e,_⟩|hk
   ·exact absurd e nk
   obtain⟨m,hm,em,_⟩:=vB h hj;obtain⟨n,hn,en,_⟩:=vB h hk;match hL:F.toL with
   | []=>rw[hL]at hm;simp at hm
   | [a]=>
    rw[hL]at hm hn;rw[aJ.1 hm]at em;rw[aJ.1 hn]at en;omega
   |a::b::l=>simp
end Go.Proofs
namespace Go.Proofs
theorem Js{m n:Bn}(hb:Br (Gn m.2.1 m.2.2))(h:∀k v,Il m k v→Il n k v):∃t,m.1=n.1++t:=by
 rcases hb with⟨v,hv⟩|⟨j,k,u,v,hj,hk,nj,nk,hne⟩
 ·obtain⟨r,e,_⟩:=h m.1 v ⟨[],(aE _).symm,hv⟩
  exact⟨r,e⟩
 ·obtain⟨r,e,_⟩:=h (m.1++j) u ⟨j,rfl,hj⟩
  obtain⟨s,f,_⟩:=h (m.1++k) v ⟨k,rfl,hk⟩;rcases List.append_eq_append_iff.1 e with⟨a,h1,h2⟩|⟨a,h1,h2⟩
  ·rw[h1,ao]at f
   have f:=mE f;cases a with
   |nil=>exact⟨[],by rw[h1];simp⟩
   |cons x a=>
    rw[h2]at hne;rw[f]at hne;exact absurd rfl hne
  ·exact⟨a,h1⟩
theorem H8:∀{F F':Fo},jA F→jA F'→(∀k v,y9 F k v↔y9 F' k v)→F=F'
 | .nil,.nil,_,_,_=>rfl
 | .nil,.cons lab w kids rest,_,h,he=>by
  obtain⟨r,v,hr⟩:=ol h _ (au ..);exact((he _ v).2 (j1.2 ⟨_,au ..,r,rfl,hr⟩)).elim
 | .cons lab w kids rest,.nil,h,_,he=>by
  obtain⟨r,v,hr⟩:=ol h _ (au ..);exact((he _ v).1 (j1.2 ⟨_,au ..,r,rfl,hr⟩)).elim
 | .cons lab w kids rest,.cons lab' w' kids' rest',h,h',he=>by
  have low:∀{lab w kids rest} {F:Fo},jA (.cons lab w kids rest)→jA F→(∀k v,y9 F k v→y9 (.cons lab w kids rest) k v)→∀n∈F.toL,hd lab≤hd n.1:=by
   intro lab w kids rest F h hF hi n hn;obtain⟨r,v,hr⟩:=ol hF n hn;obtain⟨m,hm,e,_⟩:=vB h (hi _ v (j1.2 ⟨n,hn,r,rfl,hr⟩));rw[vC ((lO.1 hF).2 n hn).1]at e;rcases az.1 hm with rfl|hm
   ·simp only at e;omega
   ·have:=h.2.2.2.1 m hm;omega
  have e1:=low h h' (fun k v=>(he k v).2) _ (au ..)
  have e2:=low h' h (fun k v=>(he k v).1) _ (au ..)
  simp only at e1 e2;have ehd:hd lab=hd lab':=by omega
  have nod:∀{lab w kids rest lab' w' kids' rest'},jA (.cons lab w kids rest)→jA (.cons lab' w' kids' rest')→hd lab=hd lab'→(∀k v,y9 (.cons lab w kids rest) k v→y9 (.cons lab' w' kids' rest') k v)→(∀k v,Il (lab,w,kids) k v→Il (lab',w',kids') k v)∧(∀k v,y9 rest k v→y9 rest' k v):=by
   intro lab w kids rest lab' w' kids' rest' h h' ehd hi;refine⟨fun k v hk=>?_,fun k v hk=>?_⟩
   ·obtain⟨n,hn,e,hr⟩:=vB h' (hi k v (j1.2 ⟨_,au ..,hk⟩))
    obtain⟨r,rfl,_⟩:=hk;rw[vC h.1]at e;rw[←Oi h' hn (au ..) (by simp only;omega)];exact hr
   ·obtain⟨m,hm,em,_⟩:=vB h.2.2.2.2 hk
    have:=h.2.2.2.1 m hm;obtain⟨n,hn,e,hr⟩:=vB h' (hi k v (Or.inr hk));rcases az.1 hn with rfl|hn
    ·simp only at e;omega
    ·exact j1.2 ⟨n,hn,hr⟩
  have⟨n1,r1⟩:=nod h h' ehd fun k v=>(he k v).1
  have⟨n2,r2⟩:=nod h' h ehd.symm fun k v=>(he k v).2
  have erest:rest=rest':=H8 h.2.2.2.2 h'.2.2.2.2 fun k v=>⟨r1 k v,r2 k v⟩
  obtain⟨t,ht⟩:=Js (m:=(lab,w,kids)) (n:=(lab',w',kids')) ((Ic h.2.2.1).1 h.2.1) n1;obtain⟨t',ht'⟩:=Js (m:=(lab',w',kids')) (n:=(lab,w,kids)) ((Ic h'.2.2.1).1 h'.2.1) n2;simp only at ht ht';have hlab:lab=lab':=by
   have:t= []:=by
    have h1:=congrArg dX ht;have h2:=congrArg dX ht';rw[ac]at h1 h2;exact aq.1 (by omega)
   rw[ht,this,aE]
  subst hlab;have inR:∀{w kids w' kids'},(∀k v,Il (lab,w,kids) k v→Il (lab,w',kids') k v)→∀k v,Gn w kids k v→Gn w' kids' k v:=by
   intro w kids w' kids' hn k v hk;obtain⟨r,e,hr⟩:=hn (lab++k) v ⟨k,rfl,hk⟩;rw[mE e];exact hr
  have i1:=inR n1;have i2:=inR n2;have ew:w=w':=by
   have wv:∀{w kids w' kids'},jA kids'→(∀k v,Gn w kids k v→Gn w' kids' k v)→∀v,w=some v→w'=some v:=by
    intro w kids w' kids' hc hi v hv;rcases hi [] v (.inl ⟨rfl,hv⟩)with⟨_,h⟩|h
    ·exact h
    ·exact absurd rfl (qI hc h)
   exact Option.ext fun v=>⟨wv h'.2.2.1 i1 v,wv h.2.2.1 i2 v⟩
  have kd:∀{w kids w' kids'},jA kids→(∀k v,Gn w kids k v→Gn w' kids' k v)→∀k v,y9 kids k v→y9 kids' k v:=by
   intro w kids w' kids' hc hi k v hk;rcases hi k v (.inr hk)with⟨e,_⟩|h
   ·exact absurd e (qI hc hk)
   ·exact h
  have ekids:kids=kids':=H8 h.2.2.1 h'.2.2.1 fun k v=>⟨kd h.2.2.1 i1 k v,kd h'.2.2.1 i2 k v⟩
  rw[ew,ekids,erest]
def cm:List UInt8→List UInt8→Nat
 |a::x,b::y=>if a=b then cm x y+1 else 0
 |_,_=>0
theorem MH:∀(x y:List UInt8),cm x y≤x.length∧cm x y≤y.length
 | [],_=>by simp[cm]
 |_::_,[]=>by simp[cm]
 |a::x,b::y=>by unfold cm;have:=MH x y;split<;>simp<;>omega
theorem JC:∀(x y:List UInt8),cm x y<x.length→cm x y<y.length→hd (x.drop (cm x y))≠hd (y.drop (cm x y))
 | [],_=>by simp[cm]
 |_::_,[]=>by simp[cm]
 |a::x,b::y=>by
  unfold cm;split
  ·rename_i e
   intro h1 h2;rw[ap]at h1 h2;rw[iU,iU];exact JC x y (by omega) (by omega)
  ·rename_i e
   intro _ _ h;exact e (jL.1 h)
theorem Pn{x y:List UInt8}(hx:x≠[])(hy:y≠[])(h:hd x=hd y):0<cm x y:=by
 match x,y,hx,hy with
 |a::x,b::y,_,_=>
  unfold cm;rw[if_pos (show a=b from jL.1 h)]
  omega
end Go.Proofs
namespace Go.Proofs
open Go.Lift
theorem xT(n:Int):0≤IntKind.wrap .u64 n∧IntKind.wrap .u64 n<18446744073709551616:=by rw[IntKind.wrap_u64];omega
theorem fL{x:Int}(h: -4611686018427387904≤x∧x≤4611686018427387904):IntKind.wrap .i64 x=x:=Go.IntWalk.i64_in _ (by omega)
theorem cl{i n:Nat}(h:i<n)(hn:n≤4611686018427387904):IntKind.wrap .i64 ((i:Int)+1)=((i+1:Nat):Int):=by rw[fL (by omega)];omega
theorem rU{h:ad}{b i:Nat}{c:Array Value}{t:TypeId}{v:Value}{k:ad→Prop}(hb:h[b]? =some (.cells c t (0,0)))
  (hk:∀h',h'[b]? =some (.cells (c.setIfInBounds i v) t (0,0))→Upd (· =b) h h'→k h'):At (hset h ⟨b,i,none⟩ v) k:=by
 refine hk _ ?_ (Upd.hset _ _ rfl);rw[AZ hb,iq hb]
def Gl(a b:Int):Int:=IntKind.wrap .u64 (af (IntKind.bits .u64) a&&&af (IntKind.bits .u64) b).toNat
def df(a b:Int):Int:=IntKind.wrap .u64 (af (IntKind.bits .u64) a^^^af (IntKind.bits .u64) b).toNat
def AL(a b:Int):Int:=IntKind.wrap .u64 (af (IntKind.bits .u64) a|||af (IntKind.bits .u64) b).toNat
def AC(x n:Int):Int:=
 AL (IntKind.wrap .u64 (x*2^(min (Gl (IntKind.wrap .u64 n) 63).toNat (IntKind.bits .u64)))) (dE x (2^(min (IntKind.wrap .u64 (64-Gl (IntKind.wrap .u64 n) 63)).toNat (IntKind.bits .u64))))
theorem xZ{x n:Int}{h:ad}{K:Int→ad→Prop}(hk:K (AC x n) h):HC PG db [.int .u64 x,.int .i64 n] [.c (.int .u64)] K h:=by
 refine qS x n ?_;unfold lU;exact⟨(xT _).1,(xT _).1,hk⟩
abbrev Q4:=Int×Int×Int×Int
def q4(s:Q4):Array Value:= #[.int .u64 s.1,.int .u64 s.2.1,.int .u64 s.2.2.1,.int .u64 s.2.2.2]
def MV(a b:Int):Int:=IntKind.wrap .u64 (a+b)
def Nd(s:Q4):Q4:=(MV s.1 s.2.1,s.2)
def Nz(s:Q4):Q4:=(s.1,df (AC s.2.1 13) s.1,s.2.2)
def OA(s:Q4):Q4:=(AC s.1 32,s.2)
def OZ(s:Q4):Q4:=(s.1,s.2.1,MV s.2.2.1 s.2.2.2,s.2.2.2)
def PB(s:Q4):Q4:=(s.1,s.2.1,s.2.2.1,df (AC s.2.2.2 16) s.2.2.1)
def PV(s:Q4):Q4:=(MV s.1 s.2.2.2,s.2)
def Qh(s:Q4):Q4:=(s.1,s.2.1,s.2.2.1,df (AC s.2.2.2 21) s.1)
def Qp(s:Q4):Q4:=(s.1,s.2.1,MV s.2.2.1 s.2.1,s.2.2.2)
def s09(s:Q4):Q4:=(s.1,df (AC s.2.1 17) s.2.2.1,s.2.2)
def s10(s:Q4):Q4:=(s.1,s.2.1,AC s.2.2.1 32,s.2.2.2)
def jp(s:Q4):Q4:=s10 (s09 (Qp (Qh (PV (PB (OZ (OA (Nz (Nd s)))))))))
def mK:Nat→Q4→Q4
 |0,s=>s
 |n+1,s=>mK n (jp s)
theorem ns{h:ad}{b i:Nat}{t:TypeId}{s s':Q4}{v:Value}{k:ad→Prop}(hb:h[b]? =some (.cells (q4 s) t (0,0))) (e:(q4 s).setIfInBounds i v=q4 s')
  (hk:∀h',h'[b]? =some (.cells (q4 s') t (0,0))→Upd (· =b) h h'→k h'):At (hset h ⟨b,i,none⟩ v) k:=
 rU hb fun h' hb' hu=>hk h' (e▸hb') hu
theorem C5{n:Nat}(hn:n≤100){h:ad}{b:Nat}{t:TypeId}{s:Q4}(hb:h[b]? =some (.cells (q4 s) t (0,0))) {K:Unit→ad→Prop}
  (hk:∀h',h'[b]? =some (.cells (q4 (mK n s)) t (0,0))→Upd (· =b) h h'→K () h'):HC PG gZ [.pointer (some ⟨b,0,none⟩),.int .i64 n] [] K h:=by
 refine vU _ _ ?_;unfold pS bR cn d6 is oC;refine LoopP.ghost (fun(g:Nat×Q4) (t':Int) h'=>t'=(g.1:Int)∧g.1≤n∧h'[b]? =some (.cells (q4 g.2) t (0,0))∧Upd (· =b) h h'∧mK (n-g.1) g.2=mK n s) (fun g=>n-g.1) (0,s) ⟨rfl,aK _,hb,Upd.refl _ _,rfl⟩ ?_
 rintro I ⟨i,s1⟩ t' h' ⟨ht,hi,hb1,hu,hr⟩ hI;simp only at ht hi hb1 hr;subst ht;refine av (fun hlt=>?_) fun hge=>?_
 ·have hlt:i<n:=by omega
  have c:∀{h:ad} {s:Q4} {i:Nat},h[b]? =some (.cells (q4 s) t (0,0))→aO h ⟨b,0+i,none⟩=(q4 s)[i]?:=fun hb=>by rw[aR];exact bo hb
  have w:∀{h:ad} {s:Q4} {i:Nat},h[b]? =some (.cells (q4 s) t (0,0))→i<4→Wr h ⟨b,0+i,none⟩:=fun hb hi=>by rw[aR];exact gB hb hi
  simp only[show((0:Int)).toNat*1=0 from rfl,show((1:Int)).toNat*1=1 from rfl,show((2:Int)).toNat*1=2 from rfl,show((3:Int)).toNat*1=3 from rfl]
  refine⟨_,rfl,by decide,_,c (i:=0) hb1,_,rfl,by decide,_,c (i:=1) hb1,_,rfl,by decide,w (i:=0) hb1 (by decide),ns (s':=Nd s1) hb1 rfl fun h2 hb2 hu2=>?_⟩
  refine⟨_,rfl,by decide,_,c (i:=1) hb2,_,rfl,by decide,_,c (i:=0) hb2,_,rfl,xZ ⟨c (i:=0) hb2,by decide,w (i:=1) hb2 (by decide),ns (s':=Nz (Nd s1)) hb2 rfl fun h3 hb3 hu3=>?_⟩⟩
  refine⟨_,rfl,by decide,_,c (i:=0) hb3,_,rfl,xZ ⟨by decide,w (i:=0) hb3 (by decide),ns (s':=OA (Nz (Nd s1))) hb3 rfl fun h4 hb4 hu4=>?_⟩⟩
  refine⟨_,rfl,by decide,_,c (i:=2) hb4,_,rfl,by decide,_,c (i:=3) hb4,_,rfl,by decide,w (i:=2) hb4 (by decide),ns (s':=OZ (OA (Nz (Nd s1)))) hb4 rfl fun h5 hb5 hu5=>?_⟩
  refine⟨_,rfl,by decide,_,c (i:=3) hb5,_,rfl,by decide,_,c (i:=2) hb5,_,rfl,xZ ⟨c (i:=2) hb5,by decide,w (i:=3) hb5 (by decide),ns (s':=PB (OZ (OA (Nz (Nd s1))))) hb5 rfl fun h6 hb6 hu6=>?_⟩⟩
  refine⟨_,rfl,by decide,_,c (i:=0) hb6,_,rfl,by decide,_,c (i:=3) hb6,_,rfl,by decide,w (i:=0) hb6 (by decide),ns (s':=PV (PB (OZ (OA (Nz (Nd s1)))))) hb6 rfl fun h7 hb7 hu7=>?_⟩
  refine⟨_,rfl,by decide,_,c (i:=3) hb7,_,rfl,by decide,_,c (i:=0) hb7,_,rfl,xZ ⟨c (i:=0) hb7,by decide,w (i:=3) hb7 (by decide),ns (s':=Qh (PV (PB (OZ (OA (Nz (Nd s1))))))) hb7 rfl fun h8 hb8 hu8=>?_⟩⟩
  refine⟨_,rfl,by decide,_,c (i:=2) hb8,_,rfl,by decide,_,c (i:=1) hb8,_,rfl,by decide,w (i:=2) hb8 (by decide),ns (s':=Qp (Qh (PV (PB (OZ (OA (Nz (Nd s1)))))))) hb8 rfl fun h9 hb9 hu9=>?_⟩
  refine⟨_,rfl,by decide,_,c (i:=1) hb9,_,rfl,by decide,_,c (i:=2) hb9,_,rfl,xZ ⟨c (i:=2) hb9,by decide,w (i:=1) hb9 (by decide),ns (s':=s09 (Qp (Qh (PV (PB (OZ (OA (Nz (Nd s1))))))))) hb9 rfl fun h10 hb10 hu10=>?_⟩⟩
  refine⟨_,rfl,by decide,_,c (i:=2) hb10,_,rfl,xZ ⟨by decide,w (i:=2) hb10 (by decide),ns (s':=jp s1) hb10 rfl fun h11 hb11 hu11=>?_⟩⟩
  rw[cl hlt (by omega)];refine hI (i+1,jp s1) _ _ ⟨rfl,hlt,hb11,hu.tr (hu2.tr (hu3.tr (hu4.tr (hu5.tr (hu6.tr (hu7.tr (hu8.tr (hu9.tr (hu10.tr hu11))))))))),?_⟩ (by simp only;omega);simp only;rw[←hr,show n-i=(n-(i+1))+1 by omega];rfl
 ·obtain rfl:i=n:=by omega
  rw[cO]at hr;have hr:s1=mK i s:=hr;rw[←hr]at hk;exact hk _ hb1 hu
end Go.Proofs
namespace Go.Proofs
open Go.Lift
def Gi(s:ByteArray)(i:Nat):Int:=match s[i]? with|some b=>(b.toNat:Int)|none=>0
def Oz(b:Int)(n:Int):Int:=IntKind.wrap .u64 ((IntKind.wrap .u64 b)*2^(min n.toNat (IntKind.bits .u64)))
def wj(s:ByteArray):Nat→Int→Int
 |0,t=>t
 |k+1,t=>wj s k (AL t (if k=0 then IntKind.wrap .u64 (Gi s 0)else Oz (Gi s k) ((8*k:Nat):Int)))
def uD(s:ByteArray):Int:=wj s s.size 0
theorem ql{s:ByteArray}{i:Nat}(h:i<s.size):∃b,s[i]? =some b∧Gi s i=(b.toNat:Int):=⟨s[i],getElem?_pos s i h,by simp[Gi,getElem?_pos s i h]⟩
theorem IX{s:ByteArray}(hs:s.size≤8){h:ad}{K:Int→ad→Prop}(hk:K (uD s) h):HC PG rM [.string s] [.c (.int .u64)] K h:=by
 refine Iq s ?_;unfold BF;refine Join.intro (fun t h'=>h'=h∧1≤s.size∧wj s 1 t=wj s s.size 0) (fun R1 hR1=>?_) ?_
 ·refine Join.intro (fun t h'=>h'=h∧2≤s.size∧wj s 2 t=wj s s.size 0) (fun R2 hR2=>?_) ?_
  ·refine Join.intro (fun t h'=>h'=h∧3≤s.size∧wj s 3 t=wj s s.size 0) (fun R3 hR3=>?_) ?_
   ·refine Join.intro (fun t h'=>h'=h∧4≤s.size∧wj s 4 t=wj s s.size 0) (fun R4 hR4=>?_) ?_
    ·refine Join.intro (fun t h'=>h'=h∧5≤s.size∧wj s 5 t=wj s s.size 0) (fun R5 hR5=>?_) ?_
     ·refine Join.intro (fun t h'=>h'=h∧6≤s.size∧wj s 6 t=wj s s.size 0) (fun R6 hR6=>?_) ?_
      ·refine Join.intro (fun t h'=>h'=h∧7≤s.size∧wj s 7 t=wj s s.size 0) (fun R7 hR7=>?_) ?_
       ·refine CondP.intro (fun e=>?_) fun e8=>?_
        ·have e:s.size=8:=by have:=of_decide_eq_true (by simpa using e:decide ((s.size:Int)=8)=true);omega
         obtain⟨b,hb,hv⟩:=ql (s:=s) (i:=7) (by omega);refine⟨b,by decide,hb,by decide,hR7 _ _ ⟨rfl,by omega,?_⟩⟩
         rw[e,←hv];rfl
        refine CondP.intro (fun e=>?_) fun e7=>?_
        ·have e:s.size=7:=by have:=of_decide_eq_true (by simpa using e:decide ((s.size:Int)=7)=true);omega
         exact hR7 _ _ ⟨rfl,by omega,by rw[e]⟩
        refine CondP.intro (fun e=>?_) fun e6=>?_
        ·have e:s.size=6:=by have:=of_decide_eq_true (by simpa using e:decide ((s.size:Int)=6)=true);omega
         exact hR6 _ _ ⟨rfl,by omega,by rw[e]⟩
        refine CondP.intro (fun e=>?_) fun e5=>?_
        ·have e:s.size=5:=by have:=of_decide_eq_true (by simpa using e:decide ((s.size:Int)=5)=true);omega
         exact hR5 _ _ ⟨rfl,by omega,by rw[e]⟩
        refine CondP.intro (fun e=>?_) fun e4=>?_
        ·have e:s.size=4:=by have:=of_decide_eq_true (by simpa using e:decide ((s.size:Int)=4)=true);omega
         exact hR4 _ _ ⟨rfl,by omega,by rw[e]⟩
        refine CondP.intro (fun e=>?_) fun e3=>?_
        ·have e:s.size=3:=by have:=of_decide_eq_true (by simpa using e:decide ((s.size:Int)=3)=true);omega
         exact hR3 _ _ ⟨rfl,by omega,by rw[e]⟩
        refine CondP.intro (fun e=>?_) fun e2=>?_
        ·have e:s.size=2:=by have:=of_decide_eq_true (by simpa using e:decide ((s.size:Int)=2)=true);omega
         exact hR2 _ _ ⟨rfl,by omega,by rw[e]⟩
        refine CondP.intro (fun e=>?_) fun e1=>?_
        ·have e:s.size=1:=by have:=of_decide_eq_true (by simpa using e:decide ((s.size:Int)=1)=true);omega
         exact hR1 _ _ ⟨rfl,by omega,by rw[e]⟩
        have e:s.size=0:=by
         have q1:¬(s.size:Int)=1:=by simpa using e1
         have q2:¬(s.size:Int)=2:=by simpa using e2
         have q3:¬(s.size:Int)=3:=by simpa using e3
         have q4:¬(s.size:Int)=4:=by simpa using e4
         have q5:¬(s.size:Int)=5:=by simpa using e5
         have q6:¬(s.size:Int)=6:=by simpa using e6
         have q7:¬(s.size:Int)=7:=by simpa using e7
         have q8:¬(s.size:Int)=8:=by simpa using e8
         omega
        unfold uD at hk;rw[e]at hk;exact hk
       ·rintro t _ ⟨rfl,hsz,ht⟩
        obtain⟨b,hb,hv⟩:=ql (s:=s) (i:=6) (by omega);refine⟨b,by decide,hb,by decide,hR6 _ _ ⟨rfl,by omega,?_⟩⟩
        rw[←ht,←hv];rfl
      ·rintro t _ ⟨rfl,hsz,ht⟩
       obtain⟨b,hb,hv⟩:=ql (s:=s) (i:=5) (by omega);refine⟨b,by decide,hb,by decide,hR5 _ _ ⟨rfl,by omega,?_⟩⟩
       rw[←ht,←hv];rfl
     ·rintro t _ ⟨rfl,hsz,ht⟩
      obtain⟨b,hb,hv⟩:=ql (s:=s) (i:=4) (by omega);refine⟨b,by decide,hb,by decide,hR4 _ _ ⟨rfl,by omega,?_⟩⟩
      rw[←ht,←hv];rfl
    ·rintro t _ ⟨rfl,hsz,ht⟩
     obtain⟨b,hb,hv⟩:=ql (s:=s) (i:=3) (by omega);refine⟨b,by decide,hb,by decide,hR3 _ _ ⟨rfl,by omega,?_⟩⟩
     rw[←ht,←hv];rfl
   ·rintro t _ ⟨rfl,hsz,ht⟩
    obtain⟨b,hb,hv⟩:=ql (s:=s) (i:=2) (by omega);refine⟨b,by decide,hb,by decide,hR2 _ _ ⟨rfl,by omega,?_⟩⟩
    rw[←ht,←hv];rfl
  ·rintro t _ ⟨rfl,hsz,ht⟩
   obtain⟨b,hb,hv⟩:=ql (s:=s) (i:=1) (by omega);refine⟨b,by decide,hb,by decide,hR1 _ _ ⟨rfl,by omega,?_⟩⟩
   rw[←ht,←hv];rfl
 ·rintro t _ ⟨rfl,hsz,ht⟩
  obtain⟨b,hb,hv⟩:=ql (s:=s) (i:=0) (by omega);refine⟨b,by decide,hb,?_⟩
  unfold uD at hk;rw[←ht]at hk;rw[←hv];exact hk
end Go.Proofs
namespace Go.Proofs
open Go.Lift
def oV(m:Int)(s:Q4):Q4:=
 let r:=mK 2 (s.1,s.2.1,s.2.2.1,df s.2.2.2 m)
 (df r.1 m,r.2)
theorem I0{m:Int}{h:ad}{b:Nat}{t:TypeId}{s:Q4}(hb:h[b]? =some (.cells (q4 s) t (0,0))) {K:Unit→ad→Prop}
  (hk:∀h',h'[b]? =some (.cells (q4 (oV m s)) t (0,0))→Upd (· =b) h h'→K () h'):HC PG kU [.pointer (some ⟨b,0,none⟩),.int .u64 m] [] K h:=by
 refine yx _ _ ?_;unfold rp bR cn d6 yH;have c:∀{h:ad} {s:Q4} {i:Nat},h[b]? =some (.cells (q4 s) t (0,0))→aO h ⟨b,0+i,none⟩=(q4 s)[i]?:=fun hb=>by rw[aR];exact bo hb
 have w:∀{h:ad} {s:Q4} {i:Nat},h[b]? =some (.cells (q4 s) t (0,0))→i<4→Wr h ⟨b,0+i,none⟩:=fun hb hi=>by rw[aR];exact gB hb hi
 simp only[show((0:Int)).toNat*1=0 from rfl,show((3:Int)).toNat*1=3 from rfl]
 refine⟨_,rfl,by decide,_,c (i:=3) hb,_,rfl,by decide,w (i:=3) hb (by decide),ns (s':=(s.1,s.2.1,s.2.2.1,df s.2.2.2 m)) hb rfl fun h2 hb2 hu2=>?_⟩
 refine C5 (n:=2) (by omega) hb2 fun h3 hb3 hu3=>?_
 have et:oV m s=(df (mK 2 (s.1,s.2.1,s.2.2.1,df s.2.2.2 m)).1 m,(mK 2 (s.1,s.2.1,s.2.2.1,df s.2.2.2 m)).2):=by unfold oV;rfl
 rw[et]at hk;generalize mK 2 (s.1,s.2.1,s.2.2.1,df s.2.2.2 m)=r at hb3 hk;refine⟨_,rfl,by decide,_,c (i:=0) hb3,_,rfl,by decide,w (i:=0) hb3 (by decide),ns (s':=(df r.1 m,r.2)) hb3 rfl fun h4 hb4 hu4=>?_⟩
 exact hk _ hb4 (hu2.tr (hu3.tr hu4))
def yM:Nat→ByteArray→Q4→ByteArray×Q4
 |0,s,q=>(s,q)
 |n+1,s,q=>if 8≤s.size then yM n (s.extract 8 s.size) (oV (uD (s.extract 0 8)) q)else(s,q)
def Pj(r:Q4):Int:=df (df (df r.1 r.2.1) r.2.2.1) r.2.2.2
def Oa(q:Q4):Int:=Pj (mK 4 (q.1,q.2.1,df q.2.2.1 255,q.2.2.2))
def PU(n:Nat)(g:ByteArray×Q4):Int:=Oa (oV (AL (uD g.1) (Oz (n:Int) 56)) g.2)
def GY(k0 k1:Int)(s:ByteArray):Int:=
 PU s.size (yM s.size s (df k0 8317987319222330741,df k1 7237128888997146477,df k0 7816392313619706465,df k1 8387220255154660723))
theorem Ob{h29:ad}{b:Nat}{t:TypeId}{r:Q4}(hb:h29[b]? =some (.cells (q4 r) t (0,0))) {K:Int→Prop} (hk:K (Pj r)):
  (((0:Int)≤(0:Int)∧(0:Int)<((4:Nat):Int))∧
   ∃v30:Int,aO h29 (adr ⟨b,0,none⟩ ((0:Int).toNat*1))=some (.int .u64 v30)∧
   (((0:Int)≤(1:Int)∧(1:Int)<((4:Nat):Int))∧
    ∃v31:Int,aO h29 (adr ⟨b,0,none⟩ ((1:Int).toNat*1))=some (.int .u64 v31)∧
    Bd (IntKind.wrap .u64 (af (IntKind.bits .u64) v30^^^af (IntKind.bits .u64) v31).toNat:Int) (fun n32=>
     (((0:Int)≤(2:Int)∧(2:Int)<((4:Nat):Int))∧
      ∃v33:Int,aO h29 (adr ⟨b,0,none⟩ ((2:Int).toNat*1))=some (.int .u64 v33)∧
      Bd (IntKind.wrap .u64 (af (IntKind.bits .u64) n32^^^af (IntKind.bits .u64) v33).toNat:Int) (fun n34=>
       (((0:Int)≤(3:Int)∧(3:Int)<((4:Nat):Int))∧
        ∃v35:Int,aO h29 (adr ⟨b,0,none⟩ ((3:Int).toNat*1))=some (.int .u64 v35)∧
        Bd (IntKind.wrap .u64 (af (IntKind.bits .u64) n34^^^af (IntKind.bits .u64) v35).toNat:Int) (fun n36=>
         K n36))))))):=by
 have c:∀{i:Nat},aO h29 ⟨b,0+i,none⟩=(q4 r)[i]?:=by intro i;rw[aR];exact bo hb
 exact⟨by decide,_,c (i:=0),by decide,_,c (i:=1),by decide,_,c (i:=2),by decide,_,c (i:=3),hk⟩
theorem N9{h24:ad}{b:Nat}{t:TypeId}{q:Q4}(hb:h24[b]? =some (.cells (q4 q) t (0,0))) {K:Unit→ad→Prop}
  (hk:∀h',h'[b]? =some (.cells (q4 (mK 4 (q.1,q.2.1,df q.2.2.1 255,q.2.2.2))) t (0,0))→Upd (· =b) h24 h'→K () h'):
  (((0:Int)≤(2:Int)∧(2:Int)<((4:Nat):Int))∧
   ∃v25:Int,aO h24 (adr ⟨b,0,none⟩ ((2:Int).toNat*1))=some (.int .u64 v25)∧
   Bd (IntKind.wrap .u64 (af (IntKind.bits .u64) v25^^^af (IntKind.bits .u64) 255).toNat:Int) (fun n26=>
    (((0:Int)≤(2:Int)∧(2:Int)<((4:Nat):Int))∧
     (Wr h24 (adr ⟨b,0,none⟩ ((2:Int).toNat*1))∧
      At (hset h24 (adr ⟨b,0,none⟩ ((2:Int).toNat*1)) (.int .u64 n26)) (fun h27=>
       HC PG gZ [.pointer (some ⟨b,0,none⟩),.int .i64 4] [] K h27))))):=by
 have c:∀{i:Nat},aO h24 ⟨b,0+i,none⟩=(q4 q)[i]?:=by intro i;rw[aR];exact bo hb
 refine⟨by decide,_,c (i:=2),by decide,by rw[show((2:Int)).toNat*1=2 from rfl,cc];exact gB hb (by simp[q4]),?_⟩
 refine ns (s':=(q.1,q.2.1,df q.2.2.1 255,q.2.2.2)) hb rfl fun h3 hb3 hu3=>?_
 exact C5 (n:=4) (by omega) hb3 fun h4 hb4 hu4=>hk h4 hb4 (hu3.tr hu4)
theorem bM{h:ad}{k:ad→Prop}(hk:k h):At h k:=hk
theorem OX{k0 k1:Int}{s:ByteArray}{h:ad}{K:Int→ad→Prop}(hk:∀h',Upd No h h'→K (GY k0 k1 s) h'):HC PG yf [.agg #[.int .u64 k0,.int .u64 k1],.string s] [.c (.int .u64)] K h:=by
 refine KY (k0,k1) s ?_;unfold DP bR cn ar nv d6 yH is PY JM JP Nl;have k1':=Upd.hnew No h [.int .u64 k0,.int .u64 k1] jO;have b1:=dj h [.int .u64 k0,.int .u64 k1] jO;have z1:=f9 h [.int .u64 k0,.int .u64 k1] jO;refine bM ?_;simp only[fk h];generalize hnew h [.int .u64 k0,.int .u64 k1] jO=h1 at k1' b1 z1;refine⟨k0,by rw[cc,bo b1];rfl,k1,by rw[cc,bo b1];rfl,k0,by rw[cc,bo b1];rfl,k1,by rw[cc,bo b1];rfl,?_⟩
 have k2:=Upd.hnew No h1 [.int .u64 0,.int .u64 0,.int .u64 0,.int .u64 0] ip;have b2:=dj h1 [.int .u64 0,.int .u64 0,.int .u64 0,.int .u64 0] ip;simp only[fk h1];simp only[Bd];refine bM ?_;refine⟨.inr ⟨_,rfl,fun j hj=>by rw[cc];exact gB b2 (by simp at hj⊢;omega)⟩,?_⟩
 refine bM ?_;rw[ia _ _ 0 0 _ b2 (by simp)];have b3:=iq (o:=.cells (q4 (df k0 8317987319222330741,df k1 7237128888997146477,df k0 7816392313619706465,df k1 8387220255154660723)) ip (0,0)) b2;have k3:Upd No h _:=k1'.tr (k2.trans (M':=(· =h1.size)) (Upd.set (hnew h1 [.int .u64 0,.int .u64 0,.int .u64 0,.int .u64 0] ip) (.cells (q4 (df k0 8317987319222330741,df k1 7237128888997146477,df k0 7816392313619706465,df k1 8387220255154660723)) ip (0,0)) rfl) fun b hb=>.inr (Nat.le_of_eq hb.symm))
 refine LoopP.ghost (fun(g:Nat×Q4) (t':ByteArray) h'=>t'.size≤g.1∧h'[h1.size]? =some (.cells (q4 g.2) ip (0,0))∧Upd No h h'∧yM g.1 t' g.2=yM s.size s (df k0 8317987319222330741,df k1 7237128888997146477,df k0 7816392313619706465,df k1 8387220255154660723)) (fun g=>g.1) (s.size,_)
  ⟨ag _,b3,k3,rfl⟩ ?_
 rintro I ⟨n,q⟩ t' h' ⟨hn,hb,hu,hg⟩ hI;simp only at hn hb hg;have hsh:∀b,b=h1.size→No b∨h.size≤b:=fun b hb=>.inr (by omega)
 refine av (fun hge=>?_) fun hlt=>?_
 ·have hge:8≤t'.size:=by omega
  cases n with
  |zero=>omega
  |succ n=>
   refine⟨by omega,IX (by rw[eH];show min 8 _-0≤8;omega) (I0 hb fun h2 hb2 hu2=>⟨by omega,?_⟩)⟩
   have e8:((8:Int)).toNat=8:=rfl;rw[e8]at hb2⊢;refine hI (n,oV (uD (t'.extract 0 8)) q) _ _ ⟨by simp only[eH];omega,hb2,hu.trans hu2 hsh,?_⟩ (by simp only;omega);rw[←hg];simp only[yM,if_pos hge]
 ·have hlt:t'.size<8:=by omega
  have hg:(t',q)=yM s.size s (df k0 8317987319222330741,df k1 7237128888997146477,df k0 7816392313619706465,df k1 8387220255154660723):=by
   rw[←hg];cases n with
   |zero=>rfl
   |succ n=>simp only[yM,if_neg (show ¬8≤t'.size by omega)]
  have c:∀{h:ad} {s:Q4} {i:Nat},h[h1.size]? =some (.cells (q4 s) ip (0,0))→aO h ⟨h1.size,0+i,none⟩=(q4 s)[i]?:=fun hb=>by rw[aR];exact bo hb
  have w:∀{h:ad} {s:Q4} {i:Nat},h[h1.size]? =some (.cells (q4 s) ip (0,0))→i<4→Wr h ⟨h1.size,0+i,none⟩:=fun hb hi=>by rw[aR];exact gB hb hi
  have hsv:GY k0 k1 s=Oa (oV (AL (uD t') (Oz (s.size:Int) 56)) q):=by unfold GY;rw[←hg];rfl
  rw[hsv]at hk;refine IX (by omega) ⟨by decide,I0 (m:=AL (uD t') (Oz (s.size:Int) 56)) hb fun h2 hb2 hu2=>?_⟩
  refine N9 hb2 fun h4 hb4 hu4=>Ob (K:=fun n=>K n h4) hb4 ?_
  exact hk h4 ((hu.trans hu2 hsh).trans hu4 hsh)
structure Hs where
 k0:Int
 k1:Int
 mask:Int
def ga(h:Hs)(s:ByteArray):Int:=Gl (GY h.k0 h.k1 s) h.mask
theorem zU{x:Hs}{s:ByteArray}{h:ad}{K:Int→ad→Prop}(hk:∀h',Upd No h h'→K (ga x s) h'):HC PG gb [.agg #[.int .u64 x.k0,.int .u64 x.k1,.int .u64 x.mask],.string s] [.c (.int .u64)] K h:=by
 refine xi (x.k0,x.k1,x.mask) s ?_;unfold qr ar uJ eB is PM;have k1':=Upd.hnew No h [.int .u64 x.k0,.int .u64 x.k1,.int .u64 x.mask] cH;have b1:=dj h [.int .u64 x.k0,.int .u64 x.k1,.int .u64 x.mask] cH;simp only[At,fk h];generalize hnew h [.int .u64 x.k0,.int .u64 x.k1,.int .u64 x.mask] cH=h1 at k1' b1;refine⟨x.k0,by rw[cc,cc,bo b1];rfl,x.k1,by rw[cc,cc,bo b1];rfl,x.mask,by rw[cc,bo b1];rfl,?_⟩
 refine OX fun h2 hu=>⟨by rw[cc,bo (hu.get0 b1)];rfl,hk _ (k1'.tr hu)⟩
theorem y3(x:Hs)(s:ByteArray):0≤ga x s∧ga x s<18446744073709551616:=xT _
end Go.Proofs
namespace Go.Proofs
open Go Go.Lift
abbrev dD(x:ByteArray×ByteArray):List Value:= [.string x.1,.string x.2]
theorem fq(x:ByteArray×ByteArray):(dD x).length=2∧0<2:=⟨rfl,by omega⟩
theorem rF:∀xs:List (ByteArray×ByteArray),cq (xs.flatMap dD)=true
 | []=>rfl
 |x::xs=>by rw[aN];exact ir rfl (rF xs)
theorem Ef{h:ad}{vb b o la ca lb cb:Nat}{cv cw:Array Value}{tv tb:TypeId}(hv:h[vb]? =some (.cells cv tv (0,0))) (hb:h[b]? =some (.cells cw tb (0,0))) (hn:vb≠b) (h0:cw.size≠0) {K:Bool→ad→Prop} (hk:K false h):
  HC PG gD [.slice (some ⟨vb,0,none⟩) la ca,.slice (some ⟨b,o,none⟩) lb cb] [.c .bool] K h:=by
 refine⟨fun w hw=>.inr ⟨.bool false,w,?_,Tame.refl w,false,rfl,hw▸hk⟩⟩
 subst hw;rw[pk];have:=Lib.run_overlaps_apart (P:=PG) w cD rz al (by kernel_rfl) (bT PG al) (qc (by kernel_rfl)) ⟨vb,0,none⟩ ⟨b,o,none⟩ la ca lb cb hn tv tb cv.size cw.size
  (by simp[World.shape?,hv]) (by simp[World.shape?,hb]) h0 (by simp[World.frozen?,hv]) (by simp[World.frozen?,hv])
 rw[show([Value.slice (some ⟨vb,0,none⟩) la ca,Value.slice (some ⟨b,o,none⟩) lb cb]:List Value).toArray= #[.slice (some ⟨vb,0,none⟩) la ca,.slice (some ⟨b,o,none⟩) lb cb]from rfl,this]
 rfl
set_option maxRecDepth 4000 in
theorem HU{M:Nat→Prop}{h:ad}{s:SliceV}{xs:List (ByteArray×ByteArray)}(hs:OwnS dD 2 al M h s xs){k:Nat}(hkl:k≤xs.length)(hn:(xs.length+1)*32≤140737488355328){x:ByteArray×ByteArray}{vb:Nat}(hv:h[vb]? =some (.cells (dD x).toArray al (0,0)))
  (hvM:¬M vb) (hM:∀b,h.size≤b→M b) {K:SliceV→ad→Prop} (hK:∀s' h',OwnS dD 2 al M h' s' (xs.take k++x::xs.drop k)→Upd M h h'→K s' h'):
  HC PG cN [.slice s.a s.len s.cap,.int .i64 k,.slice (some ⟨vb,0,none⟩) 1 1] [.c .slice] K h:=by
 refine lf s k ⟨some ⟨vb,0,none⟩,1,1⟩ ?_;unfold gf jm;have hlen:=hs.len;have hcap:=hs.cap;have hxr:SRow h (some ⟨vb,0,none⟩) (1*2) (dD x):=⟨rfl,.inr ⟨_,rfl,pb hv fun i v hi=>by simpa using hi⟩⟩
 refine⟨by omega,aj.2 ?_⟩;refine CondP.intro (fun e=>?_) fun e=>?_
 ·have e:k=xs.length:=by have:=of_decide_eq_true (by simpa using e:decide ((k:Int)=(s.len:Int))=true);omega
  subst e;refine⟨_,hxr,AppP.own (ys:= [x]) hs rfl (by simp) rfl rfl (by omega) (by simp;omega) (hM _ (ag _)) fun s' h' ho hu=>hK s' h' ?_ hu⟩
  rw[bQ,lq];exact ho
 have hlt:k<xs.length:=by
  rcases cf k xs.length with h|h
  ·exact h
  ·have:((k:Int)==(s.len:Int))=true:=by rw[beq_iff_eq];omega
   rw[this]at e;cases e
 rcases hs.blk with h0|⟨b,rest,ha,hb,hc,hr⟩
 ·omega
 have hA:((xs.take k).flatMap dD).length=k*2:=by rw[nW fq,aD,bL hkl]
 have hB:((xs.drop k).flatMap dD).length=(xs.length-k)*2:=by rw[nW fq,aV]
 have hbv:vb≠b:=fun e=>hvM (e▸hb)
 rw[Bb (f:=dD) xs k]at hc;have hins:(xs.take k++x::xs.drop k).flatMap dD=(xs.take k).flatMap dD++(dD x++(xs.drop k).flatMap dD):=by rw[bC,aN]
 have hone:=rF (xs.drop k);have hxl:(dD x).length=2:=rfl;have hx1:cq (dD x)=true:=rfl;generalize hAe:(xs.take k).flatMap dD=A at hA hc hins;generalize hBe:(xs.drop k).flatMap dD=B at hB hc hins hone;generalize dD x=X at hxr hxl hv hins hx1;rw[ha];have w1:IntKind.wrap .i64 ((xs.length:Int)+((1:Nat):Int))=((xs.length+1:Nat):Int):=by rw[fL (by omega)];omega
 have w2:IntKind.wrap .i64 ((k:Int)+((1:Nat):Int))=((k+1:Nat):Int):=by rw[fL (by omega)];omega
 have w3:IntKind.wrap .i64 (((xs.length+1:Nat):Int)-(k:Int))=((xs.length+1-k:Nat):Int):=by rw[fL (by omega)];omega
 simp only[w1,w2,w3,aM,hlen];refine av (fun hgt=>?_) fun hle=>?_
 ·
  have hcl:s.cap=xs.length:=by omega
  refine Join.plain ⟨by omega,⟨by omega,by omega,by omega,by omega⟩,fun hin=>?_,fun hout=>?_⟩
  ·omega
  ·refine⟨A,_,?_,rfl,by omega,Go.growslice_fits hout (by omega),fun nc hnc=>?_⟩
   ·rw[sub_zero]
    exact oE hc (by rw[hA];omega) (by simp only[dB,eT];rw[ao,←hA,f5 (ag _),bQ])
   ·simp only[aM]at hnc⊢
    have kn:=Upd.hnew No h (A++dR (xs.length+1-k) [.string (⟨#[]⟩:ByteArray),.string (⟨#[]⟩:ByteArray)]++dR (nc-(k-0+(xs.length+1-k))) [.string (⟨#[]⟩:ByteArray),.string (⟨#[]⟩:ByteArray)]) al;have bn:=dj h (A++dR (xs.length+1-k) [.string (⟨#[]⟩:ByteArray),.string (⟨#[]⟩:ByteArray)]++dR (nc-(k-0+(xs.length+1-k))) [.string (⟨#[]⟩:ByteArray),.string (⟨#[]⟩:ByteArray)]) al
    have hz1:(dR (xs.length+1-k) [.string (⟨#[]⟩:ByteArray),.string (⟨#[]⟩:ByteArray)]).length=(xs.length+1-k)*2:=nY _ _;have hz2:(dR (nc-(k-0+(xs.length+1-k))) [.string (⟨#[]⟩:ByteArray),.string (⟨#[]⟩:ByteArray)]).length=(nc-(k-0+(xs.length+1-k)))*2:=nY _ _;have hncl:k-0+(xs.length+1-k)=xs.length+1:=by omega
    rw[fk];have hsz:h.size≠vb:=fun e=>by have:=bw hv;omega
    have hszb:h.size≠b:=fun e=>by have:=bw hc;omega
    have hbc:=kn.get0 hc;have hvc:=kn.get0 hv;generalize hnew h _ al=h9 at kn bn hbc hvc;rw[hncl]at hnc hz2⊢;have m1:fl 1 (xs.length+1-k)=1:=bL (by omega);have m2:fl (xs.length-k) (xs.length+1-(k+1))=xs.length-k:=bL (by omega);rw[m1];have xr9:SRow h9 (some ⟨vb,0,none⟩) (1*2) X:=oE hvc (by rw[hxl]) (by rw[dB,bj];rw[hxl];omega)
    refine⟨by omega,?_⟩;rw[mJ (by omega)];refine ou xr9 hx1 bn (by simp only[ac,hA,hz1];omega) fun h11 hb11 hu11=>⟨by omega,?_⟩
    simp only[Bd];rw[mJ (by omega),mJ (by omega),m2];refine⟨by omega,?_⟩;have hbc11:=hu11.get hbc (fun e=>hszb e.symm)
    have br:SRow h11 (some ⟨b,0+k*2,none⟩) ((xs.length-k)*2) B:=oE hbc11 hB (by
     rw[aR,ao,←hA,jd,←hB,i6])
    refine ou br hone hb11 ?_ fun h16 hb16 hu16=>?_
    ·simp only[ac,aD,aV,hA,hz1,hxl];omega
    ·refine hK _ _ ⟨by simp;omega,fq,hnc,.inr ⟨h.size,dR (nc-(xs.length+1)) [.string (⟨#[]⟩:ByteArray),.string (⟨#[]⟩:ByteArray)],rfl,hM _ (ag _),?_,by rw[nY];rfl⟩⟩ ((kn.wide.trans (M':=(· =h.size)) hu11 fun b hb=>.inl (hb▸hM _ (ag _))).trans (M':=(· =h.size)) hu16 fun b hb=>.inl (hb▸hM _ (ag _)))
     rw[hb16,hins];have:=Jq (A:=A) (X:=X) (B:=B) (Z1:=dR (xs.length+1-k) [.string (⟨#[]⟩:ByteArray),.string (⟨#[]⟩:ByteArray)]) (Z2:=dR (nc-(xs.length+1)) [.string (⟨#[]⟩:ByteArray),.string (⟨#[]⟩:ByteArray)]) (r:=(xs.length-k)*2) hA hxl (by rw[hz1,←jM];congr 1;omega);rw[hncl,←this];simp only[aR,jM,Nat.one_mul]
 ·have hcl:xs.length+1≤s.cap:=by omega
  refine⟨by omega,?_⟩;simp only[Bd,eT];rw[sub_zero,mJ (show s.cap≠k+1 by omega),mJ (show s.cap≠k by omega)]
  refine⟨by omega,?_⟩;have hrl:2≤rest.length:=by rw[hr];exact Nat.le_mul_of_pos_left _ (by omega)
  refine Ef hv hc hbv (by rw[dM,ac];omega) ?_;refine aB.2 ⟨by omega,by omega,?_⟩
  have m1:fl 1 (xs.length+1-k)=1:=bL (by omega);have m2:fl (xs.length+1-k) (xs.length+1-(k+1))=xs.length-k:=by
   rw[show xs.length+1-(k+1)=xs.length-k by omega];exact Nat.min_eq_right (by omega)
  rw[m2];have br:SRow h (some ⟨b,0+k*2,none⟩) ((xs.length-k)*2) B:=oE hc hB (by
   rw[aR,ao,←hA,jd,←hB,i6])
  refine ou br hone hc (by simp only[ac,hA,hB];omega) fun h1 hb1 hu1=>⟨by omega,?_⟩
  rw[m1];have xr1:SRow h1 (some ⟨vb,0,none⟩) (1*2) X:=oE (hu1.get hv hbv) (by rw[hxl]) (by rw[dB,bj];rw[hxl];omega);refine ou xr1 hx1 hb1 (by simp only[ac,aD,aV,hA,hB];omega) fun h2 hb2 hu2=>?_
  refine hK _ _ ⟨by simp;omega,fq,hcl,.inr ⟨b,rest.drop 2,rfl,hb,?_,?_⟩⟩ ((hu1.mono fun _ e=>.inl (e▸hb)).tr (hu2.mono fun _ e=>.inl (e▸hb)))
  ·rw[hb2,hins]
   have:=Mk (A:=A) (X:=X) (B:=B) (R:=rest) (q:=2) (r:=(xs.length-k)*2) hA hB hrl;rw[←this];simp only[aR,jM,Nat.one_mul]
  ·rw[aV,hr]
   simp only;rw[hlen];omega
abbrev oX(x:Option Addr):List Value:= [.pointer x]
theorem pz(x:Option Addr):(oX x).length=1∧0<1:=⟨rfl,by omega⟩
theorem zQ:∀xs:List (Option Addr),cq (xs.flatMap oX)=true
 | []=>rfl
 |x::xs=>by rw[aN];exact ir rfl (zQ xs)
theorem Eg{h:ad}{vb b o la ca lb cb:Nat}{cv cw:Array Value}{tv tb:TypeId}(hv:h[vb]? =some (.cells cv tv (0,0))) (hb:h[b]? =some (.cells cw tb (0,0))) (hn:vb≠b) (h0:cw.size≠0) {K:Bool→ad→Prop} (hk:K false h):
  HC PG fW [.slice (some ⟨vb,0,none⟩) la ca,.slice (some ⟨b,o,none⟩) lb cb] [.c .bool] K h:=by
 refine⟨fun w hw=>.inr ⟨.bool false,w,?_,Tame.refl w,false,rfl,hw▸hk⟩⟩
 subst hw;rw[ox];have:=Lib.run_overlaps_apart (P:=PG) w oD rz bK (by kernel_rfl) (bT PG bK) (qc (by kernel_rfl)) ⟨vb,0,none⟩ ⟨b,o,none⟩ la ca lb cb hn tv tb cv.size cw.size
  (by simp[World.shape?,hv]) (by simp[World.shape?,hb]) h0 (by simp[World.frozen?,hv]) (by simp[World.frozen?,hv])
 rw[show([Value.slice (some ⟨vb,0,none⟩) la ca,Value.slice (some ⟨b,o,none⟩) lb cb]:List Value).toArray= #[.slice (some ⟨vb,0,none⟩) la ca,.slice (some ⟨b,o,none⟩) lb cb]from rfl,this]
 rfl
set_option maxRecDepth 4000 in
theorem HW{M:Nat→Prop}{h:ad}{s:SliceV}{xs:List (Option Addr)}(hs:OwnS oX 1 bK M h s xs){k:Nat}(hkl:k≤xs.length)(hn:(xs.length+1)*8≤140737488355328){x:Option Addr}{vb:Nat}(hv:h[vb]? =some (.cells (oX x).toArray bK (0,0)))
  (hvM:¬M vb) (hM:∀b,h.size≤b→M b) {K:SliceV→ad→Prop} (hK:∀s' h',OwnS oX 1 bK M h' s' (xs.take k++x::xs.drop k)→Upd M h h'→K s' h'):
  HC PG cC [.slice s.a s.len s.cap,.int .i64 k,.slice (some ⟨vb,0,none⟩) 1 1] [.c .slice] K h:=by
 refine jH s k ⟨some ⟨vb,0,none⟩,1,1⟩ ?_;unfold fy;have hlen:=hs.len;have hcap:=hs.cap;have hxr:SRow h (some ⟨vb,0,none⟩) (1*1) (oX x):=⟨rfl,.inr ⟨_,rfl,pb hv fun i v hi=>by simpa using hi⟩⟩
 refine⟨by omega,aj.2 ?_⟩;refine CondP.intro (fun e=>?_) fun e=>?_
 ·have e:k=xs.length:=by have:=of_decide_eq_true (by simpa using e:decide ((k:Int)=(s.len:Int))=true);omega
  subst e;refine⟨_,hxr,AppP.own (ys:= [x]) hs rfl (by simp) rfl rfl (by omega) (by simp;omega) (hM _ (ag _)) fun s' h' ho hu=>hK s' h' ?_ hu⟩
  rw[bQ,lq];exact ho
 have hlt:k<xs.length:=by
  rcases cf k xs.length with h|h
  ·exact h
  ·have:((k:Int)==(s.len:Int))=true:=by rw[beq_iff_eq];omega
   rw[this]at e;cases e
 rcases hs.blk with h0|⟨b,rest,ha,hb,hc,hr⟩
 ·omega
 have hA:((xs.take k).flatMap oX).length=k*1:=by rw[nW pz,aD,bL hkl]
 have hB:((xs.drop k).flatMap oX).length=(xs.length-k)*1:=by rw[nW pz,aV]
 have hbv:vb≠b:=fun e=>hvM (e▸hb)
 rw[Bb (f:=oX) xs k]at hc;have hins:(xs.take k++x::xs.drop k).flatMap oX=(xs.take k).flatMap oX++(oX x++(xs.drop k).flatMap oX):=by rw[bC,aN]
 have hone:=zQ (xs.drop k);have hxl:(oX x).length=1:=rfl;have hx1:cq (oX x)=true:=rfl;generalize hAe:(xs.take k).flatMap oX=A at hA hc hins;generalize hBe:(xs.drop k).flatMap oX=B at hB hc hins hone;generalize oX x=X at hxr hxl hv hins hx1;rw[ha];have w1:IntKind.wrap .i64 ((xs.length:Int)+((1:Nat):Int))=((xs.length+1:Nat):Int):=by rw[fL (by omega)];omega
 have w2:IntKind.wrap .i64 ((k:Int)+((1:Nat):Int))=((k+1:Nat):Int):=by rw[fL (by omega)];omega
 have w3:IntKind.wrap .i64 (((xs.length+1:Nat):Int)-(k:Int))=((xs.length+1-k:Nat):Int):=by rw[fL (by omega)];omega
 simp only[w1,w2,w3,aM,hlen];refine av (fun hgt=>?_) fun hle=>?_
 ·
  have hcl:s.cap=xs.length:=by omega
  refine Join.plain ⟨by omega,⟨by omega,by omega,by omega,by omega⟩,fun hin=>?_,fun hout=>?_⟩
  ·omega
  ·refine⟨A,_,?_,rfl,by omega,Go.growslice_fits hout (by omega),fun nc hnc=>?_⟩
   ·rw[sub_zero]
    exact oE hc (by rw[hA];omega) (by simp only[dB,eT];rw[ao,←hA,f5 (ag _),bQ])
   ·simp only[aM]at hnc⊢
    have kn:=Upd.hnew No h (A++dR (xs.length+1-k) [.pointer none]++dR (nc-(k-0+(xs.length+1-k))) [.pointer none]) bK;have bn:=dj h (A++dR (xs.length+1-k) [.pointer none]++dR (nc-(k-0+(xs.length+1-k))) [.pointer none]) bK;have hz1:(dR (xs.length+1-k) [.pointer none]).length=(xs.length+1-k)*1:=nY _ _;have hz2:(dR (nc-(k-0+(xs.length+1-k))) [.pointer none]).length=(nc-(k-0+(xs.length+1-k)))*1:=nY _ _
    have hncl:k-0+(xs.length+1-k)=xs.length+1:=by omega
    rw[fk];have hsz:h.size≠vb:=fun e=>by have:=bw hv;omega
    have hszb:h.size≠b:=fun e=>by have:=bw hc;omega
    have hbc:=kn.get0 hc;have hvc:=kn.get0 hv;generalize hnew h _ bK=h9 at kn bn hbc hvc;rw[hncl]at hnc hz2⊢;have m1:fl 1 (xs.length+1-k)=1:=bL (by omega);have m2:fl (xs.length-k) (xs.length+1-(k+1))=xs.length-k:=bL (by omega);rw[m1];have xr9:SRow h9 (some ⟨vb,0,none⟩) (1*1) X:=oE hvc (by rw[hxl]) (by rw[dB,bj];rw[hxl];omega)
    refine⟨by omega,?_⟩;rw[mJ (by omega)];refine ou xr9 hx1 bn (by simp only[ac,hA,hz1];omega) fun h11 hb11 hu11=>⟨by omega,?_⟩
    simp only[Bd];rw[mJ (by omega),mJ (by omega),m2];refine⟨by omega,?_⟩;have hbc11:=hu11.get hbc (fun e=>hszb e.symm)
    have br:SRow h11 (some ⟨b,0+k*1,none⟩) ((xs.length-k)*1) B:=oE hbc11 hB (by
     rw[aR,ao,←hA,jd,←hB,i6])
    refine ou br hone hb11 ?_ fun h16 hb16 hu16=>?_
    ·simp only[ac,aD,aV,hA,hz1,hxl];omega
    ·refine hK _ _ ⟨by simp;omega,pz,hnc,.inr ⟨h.size,dR (nc-(xs.length+1)) [.pointer none],rfl,hM _ (ag _),?_,by rw[nY];rfl⟩⟩ ((kn.wide.trans (M':=(· =h.size)) hu11 fun b hb=>.inl (hb▸hM _ (ag _))).trans (M':=(· =h.size)) hu16 fun b hb=>.inl (hb▸hM _ (ag _)))
     rw[hb16,hins];have:=Jq (A:=A) (X:=X) (B:=B) (Z1:=dR (xs.length+1-k) [.pointer none]) (Z2:=dR (nc-(xs.length+1)) [.pointer none]) (r:=(xs.length-k)*1) hA hxl (by rw[hz1,←jM];congr 1;omega);rw[hncl,←this];simp only[aR,jM,Nat.one_mul]
 ·have hcl:xs.length+1≤s.cap:=by omega
  refine⟨by omega,?_⟩;simp only[Bd,eT];rw[sub_zero,mJ (show s.cap≠k+1 by omega),mJ (show s.cap≠k by omega)]
  refine⟨by omega,?_⟩;have hrl:1≤rest.length:=by rw[hr];exact Nat.le_mul_of_pos_left _ (by omega)
  refine Eg hv hc hbv (by rw[dM,ac];omega) ?_;refine aB.2 ⟨by omega,by omega,?_⟩
  have m1:fl 1 (xs.length+1-k)=1:=bL (by omega);have m2:fl (xs.length+1-k) (xs.length+1-(k+1))=xs.length-k:=by
   rw[show xs.length+1-(k+1)=xs.length-k by omega];exact Nat.min_eq_right (by omega)
  rw[m2];have br:SRow h (some ⟨b,0+k*1,none⟩) ((xs.length-k)*1) B:=oE hc hB (by
   rw[aR,ao,←hA,jd,←hB,i6])
  refine ou br hone hc (by simp only[ac,hA,hB];omega) fun h1 hb1 hu1=>⟨by omega,?_⟩
  rw[m1];have xr1:SRow h1 (some ⟨vb,0,none⟩) (1*1) X:=oE (hu1.get hv hbv) (by rw[hxl]) (by rw[dB,bj];rw[hxl];omega);refine ou xr1 hx1 hb1 (by simp only[ac,aD,aV,hA,hB];omega) fun h2 hb2 hu2=>?_
  refine hK _ _ ⟨by simp;omega,pz,hcl,.inr ⟨b,rest.drop 1,rfl,hb,?_,?_⟩⟩ ((hu1.mono fun _ e=>.inl (e▸hb)).tr (hu2.mono fun _ e=>.inl (e▸hb)))
  ·rw[hb2,hins]
   have:=Mk (A:=A) (X:=X) (B:=B) (R:=rest) (q:=1) (r:=(xs.length-k)*1) hA hB hrl;rw[←this];simp only[aR,jM,Nat.one_mul]
  ·rw[aV,hr]
   simp only;rw[hlen];omega
abbrev yQ(x:Option Addr):List Value:= [.pointer x]
theorem vr(x:Option Addr):(yQ x).length=1∧0<1:=⟨rfl,by omega⟩
theorem Jh:∀xs:List (Option Addr),cq (xs.flatMap yQ)=true
 | []=>rfl
 |x::xs=>by rw[aN];exact ir rfl (Jh xs)
end Go.Proofs
namespace Go.Proofs
open Go Go.Lift
theorem uh{W:Nat→Prop}{h:ad}{s:SliceV}{xs:List (ByteArray×ByteArray)}(h1:Sl dD 2 W h s xs)(hn:xs.length*32≤140737488355328){K:SliceV→ad→Prop}
  (hk:∀s' h',OwnS dD 2 al (fun b=>h.size≤b) h' s' xs→Upd No h h'→K s' h'):HC PG cU [.slice s.a s.len s.cap] [.c .slice] K h:=by
 refine ly s ?_;unfold gu jm;refine CondP.intro (fun he=>?_) (fun hne=>?_)
 ·have he:s.a=none:=by simpa using he
  have hx:xs= []:=by
   by_cases hx:xs= []
   ·exact hx
   ·obtain⟨a,ha,_⟩:=h1.row hx
    rw[he]at ha;cases ha
  subst hx;exact hk _ _ (OwnS.nil fq) (Upd.refl _ _)
 ·have h2:=h1.upd (Upd.hnew No h [] al) (fun _ h=>h.elim)
  refine⟨_,h2.srow,?_⟩;refine AppP.own (f:=dD) (M:=fun b=>h.size≤b) (xs:= []) (ys:=xs) ⟨rfl,fq,ag _,.inl rfl⟩ h1.len rfl (rF xs) rfl (by omega) (by simpa using hn) (by rw[f9];omega) fun s' h' ho hu=>?_
  exact hk _ _ ho ((Upd.hnew No h [] al).trans hu fun b hb=>.inr hb)
theorem H5{M:Nat→Prop}{h:ad}{s:SliceV}{xs:List (ByteArray×ByteArray)}(hs:OwnS dD 2 al M h s xs){k:Nat}(hkl:k<xs.length)(hn:xs.length≤4398046511104)
  {K:SliceV→ad→Prop}(hK:∀s' h',OwnS dD 2 al M h' s' (xs.take k++xs.drop (k+1))→Upd M h h'→K s' h'):
  HC PG eE [.slice s.a s.len s.cap,.int .i64 k,.int .i64 ((k+1:Nat):Int)] [.c .slice] K h:=by
 refine lg s k ((k+1:Nat):Int) ?_;unfold gg jm;have hlen:=hs.len;have hcap:=hs.cap;rcases hs.blk with h0|⟨b,rest,ha,hb,hc,hr⟩
 ·omega
 have hA:((xs.take k).flatMap dD).length=k*2:=by rw[nW fq,aD,bL (by omega)]
 have hB:((xs.drop (k+1)).flatMap dD).length=(xs.length-(k+1))*2:=by rw[nW fq,aV]
 have e1:xs.flatMap dD=(xs.take k).flatMap dD++(dD xs[k]++(xs.drop (k+1)).flatMap dD):=by
  rw[←aN,←dN hkl];exact Bb xs k
 rw[e1]at hc;have hone:=rF (xs.drop (k+1));have hins:(xs.take k++xs.drop (k+1)).flatMap dD=(xs.take k).flatMap dD++(xs.drop (k+1)).flatMap dD:=bC;have hX:(dD xs[k]).length=2:=rfl;generalize (xs.take k).flatMap dD=A at hA hc hins;generalize (xs.drop (k+1)).flatMap dD=B at hB hc hone hins;generalize dD xs[k]=X at hX hc;rw[ha];simp only[hlen,aM];refine⟨by omega,by omega,by omega,CondP.intro (fun e=>?_) fun _=>?_⟩
 ·have:(k:Int)=((k+1:Nat):Int):=by simpa using e
  omega
 refine Join.plain ⟨by omega,by omega,B,?_,?_⟩
 ·by_cases hlast:xs.length=k+1
  ·exact⟨hB,.inl (aq.1 (by rw[hB,hlast,cO,r6]))⟩
  rw[mJ (by omega)];refine oE hc hB ?_;have:(A++X).length=0+(k+1)*2:=by rw[ac];omega
  rw[show A++(X++B)++rest=(A++X)++(B++rest) by simp only[ao],cG this,dy hB]
 ·rw[sub_zero]
  refine MO hc (by simp only[ac];omega) (by omega) hone fun h1 hb1 hu1=>?_
  have hr':rest.length=(s.cap-xs.length)*2:=by rw[hr,hlen]
  refine⟨by dsimp only;omega,by dsimp only;omega,?_⟩
  simp only[Bd];rw[mJ (by omega)];have en:xs.length-(k-0+(xs.length-(k+1)))=1:=by omega
  have hd1:(A++(X++B)++rest).drop ((k-0)*2+B.length)=(X++B).drop B.length++rest:=by
   rw[ao,←dK,cG (show A.length=(k-0)*2 by rw[hA,eT]),f6 (by rw[ac];omega)]
  have ht1:(A++(X++B)++rest).take ((k-0)*2)=A:=by rw[ao,dy (show A.length=(k-0)*2 by rw[hA,eT])]
  rw[hd1,ht1]at hb1;have hdl:((X++B).drop B.length).length=2:=by rw[aV,ac];omega
  generalize (X++B).drop B.length=D at hdl hb1;rw[en];have hz:(dR 1 [.string (⟨#[]⟩:ByteArray),.string (⟨#[]⟩:ByteArray)]).length=2:=rfl;have hAB:(A++B).length=0+(k-0+(xs.length-(k+1)))*2:=by rw[ac,hA,hB];omega
  refine Je hb1 (by simp only[ac]at hAB⊢;omega) fun h2 hb2 hu2=>?_
  rw[dy hAB,←dK,cG hAB]at hb2;refine hK _ _ ⟨by simp;omega,fq,by simp only;omega,.inr ⟨b,dR 1 [.string (⟨#[]⟩:ByteArray),.string (⟨#[]⟩:ByteArray)]++(D++rest).drop (dR 1 [.string (⟨#[]⟩:ByteArray),.string (⟨#[]⟩:ByteArray)]).length,rfl,hb,?_,?_⟩⟩ ((hu1.mono fun _ e=>.inl (e▸hb)).tr (hu2.mono fun _ e=>.inl (e▸hb)))
  ·rw[hb2,hins];simp only[ao]
  ·simp only[ac,aV,hz,hdl,hr']
   omega
theorem yl{W:Nat→Prop}{h:ad}{s:SliceV}{xs:List (Option Addr)}(h1:Sl oX 1 W h s xs)(hn:xs.length*8≤140737488355328){K:SliceV→ad→Prop}
  (hk:∀s' h',OwnS oX 1 bK (fun b=>h.size≤b) h' s' xs→Upd No h h'→K s' h'):HC PG dh [.slice s.a s.len s.cap] [.c .slice] K h:=by
 refine jU s ?_;unfold fH;refine CondP.intro (fun he=>?_) (fun hne=>?_)
 ·have he:s.a=none:=by simpa using he
  have hx:xs= []:=by
   by_cases hx:xs= []
   ·exact hx
   ·obtain⟨a,ha,_⟩:=h1.row hx
    rw[he]at ha;cases ha
  subst hx;exact hk _ _ (OwnS.nil pz) (Upd.refl _ _)
 ·have h2:=h1.upd (Upd.hnew No h [] bK) (fun _ h=>h.elim)
  refine⟨_,h2.srow,?_⟩;refine AppP.own (f:=oX) (M:=fun b=>h.size≤b) (xs:= []) (ys:=xs) ⟨rfl,pz,ag _,.inl rfl⟩ h1.len rfl (zQ xs) rfl (by omega) (by simpa using hn) (by rw[f9];omega) fun s' h' ho hu=>?_
  exact hk _ _ ho ((Upd.hnew No h [] bK).trans hu fun b hb=>.inr hb)
theorem H6{M:Nat→Prop}{h:ad}{s:SliceV}{xs:List (Option Addr)}(hs:OwnS oX 1 bK M h s xs){k:Nat}(hkl:k<xs.length)(hn:xs.length≤4398046511104)
  {K:SliceV→ad→Prop}(hK:∀s' h',OwnS oX 1 bK M h' s' (xs.take k++xs.drop (k+1))→Upd M h h'→K s' h'):
  HC PG dS [.slice s.a s.len s.cap,.int .i64 k,.int .i64 ((k+1:Nat):Int)] [.c .slice] K h:=by
 refine jI s k ((k+1:Nat):Int) ?_;unfold fz;have hlen:=hs.len;have hcap:=hs.cap;rcases hs.blk with h0|⟨b,rest,ha,hb,hc,hr⟩
 ·omega
 have hA:((xs.take k).flatMap oX).length=k*1:=by rw[nW pz,aD,bL (by omega)]
 have hB:((xs.drop (k+1)).flatMap oX).length=(xs.length-(k+1))*1:=by rw[nW pz,aV]
 have e1:xs.flatMap oX=(xs.take k).flatMap oX++(oX xs[k]++(xs.drop (k+1)).flatMap oX):=by
  rw[←aN,←dN hkl];exact Bb xs k
 rw[e1]at hc;have hone:=zQ (xs.drop (k+1));have hins:(xs.take k++xs.drop (k+1)).flatMap oX=(xs.take k).flatMap oX++(xs.drop (k+1)).flatMap oX:=bC;have hX:(oX xs[k]).length=1:=rfl;generalize (xs.take k).flatMap oX=A at hA hc hins;generalize (xs.drop (k+1)).flatMap oX=B at hB hc hone hins;generalize oX xs[k]=X at hX hc;rw[ha];simp only[hlen,aM];refine⟨by omega,by omega,by omega,CondP.intro (fun e=>?_) fun _=>?_⟩
 ·have:(k:Int)=((k+1:Nat):Int):=by simpa using e
  omega
 refine Join.plain ⟨by omega,by omega,B,?_,?_⟩
 ·by_cases hlast:xs.length=k+1
  ·exact⟨hB,.inl (aq.1 (by rw[hB,hlast,cO,r6]))⟩
  rw[mJ (by omega)];refine oE hc hB ?_;have:(A++X).length=0+(k+1)*1:=by rw[ac];omega
  rw[show A++(X++B)++rest=(A++X)++(B++rest) by simp only[ao],cG this,dy hB]
 ·rw[sub_zero]
  refine MO hc (by simp only[ac];omega) (by omega) hone fun h1 hb1 hu1=>?_
  have hr':rest.length=(s.cap-xs.length)*1:=by rw[hr,hlen]
  refine⟨by dsimp only;omega,by dsimp only;omega,?_⟩
  simp only[Bd];rw[mJ (by omega)];have en:xs.length-(k-0+(xs.length-(k+1)))=1:=by omega
  have hd1:(A++(X++B)++rest).drop ((k-0)*1+B.length)=(X++B).drop B.length++rest:=by
   rw[ao,←dK,cG (show A.length=(k-0)*1 by rw[hA,eT]),f6 (by rw[ac];omega)]
  have ht1:(A++(X++B)++rest).take ((k-0)*1)=A:=by rw[ao,dy (show A.length=(k-0)*1 by rw[hA,eT])]
  rw[hd1,ht1]at hb1;have hdl:((X++B).drop B.length).length=1:=by rw[aV,ac];omega
  generalize (X++B).drop B.length=D at hdl hb1;rw[en];have hz:(dR 1 [.pointer none]).length=1:=rfl;have hAB:(A++B).length=0+(k-0+(xs.length-(k+1)))*1:=by rw[ac,hA,hB];omega
  refine Je hb1 (by simp only[ac]at hAB⊢;omega) fun h2 hb2 hu2=>?_
  rw[dy hAB,←dK,cG hAB]at hb2;refine hK _ _ ⟨by simp;omega,pz,by simp only;omega,.inr ⟨b,dR 1 [.pointer none]++(D++rest).drop (dR 1 [.pointer none]).length,rfl,hb,?_,?_⟩⟩ ((hu1.mono fun _ e=>.inl (e▸hb)).tr (hu2.mono fun _ e=>.inl (e▸hb)))
  ·rw[hb2,hins];simp only[ao]
  ·simp only[ac,aV,hz,hdl,hr']
   omega
theorem KG{W:Nat→Prop}{h:ad}{s:SliceV}{xs:List (Option Addr)}(h1:Sl yQ 1 W h s xs)(hn:xs.length*8≤140737488355328){K:SliceV→ad→Prop}
  (hk:∀s' h',OwnS yQ 1 bS (fun b=>h.size≤b) h' s' xs→Upd No h h'→K s' h'):HC PG dQ [.slice s.a s.len s.cap] [.c .slice] K h:=by
 refine jz s ?_;unfold fx;refine CondP.intro (fun he=>?_) (fun hne=>?_)
 ·have he:s.a=none:=by simpa using he
  have hx:xs= []:=by
   by_cases hx:xs= []
   ·exact hx
   ·obtain⟨a,ha,_⟩:=h1.row hx
    rw[he]at ha;cases ha
  subst hx;exact hk _ _ (OwnS.nil vr) (Upd.refl _ _)
 ·have h2:=h1.upd (Upd.hnew No h [] bS) (fun _ h=>h.elim)
  refine⟨_,h2.srow,?_⟩;refine AppP.own (f:=yQ) (M:=fun b=>h.size≤b) (xs:= []) (ys:=xs) ⟨rfl,vr,ag _,.inl rfl⟩ h1.len rfl (Jh xs) rfl (by omega) (by simpa using hn) (by rw[f9];omega) fun s' h' ho hu=>?_
  exact hk _ _ ho ((Upd.hnew No h [] bS).trans hu fun b hb=>.inr hb)
end Go.Proofs
namespace Go.Proofs
open Go.Lift
abbrev Pr:=ByteArray×ByteArray
theorem ym{a b:ByteArray}:a.toList=b.toList↔a=b:=by
 constructor
 ·intro h
  rw[ByteArray.toList_eq,ByteArray.toList_eq]at h;cases a;cases b;simp at h;subst h;rfl
 ·rintro rfl;rfl
def kl(a b:ByteArray):Prop:=Op.bytesLess a.toList b.toList=true
instance (a b:ByteArray):Decidable (kl a b):=inferInstanceAs (Decidable (_=true))
theorem HL{a b:ByteArray}:kl a b↔a.toList<b.toList:=by unfold kl;rw[bytesLess_eq,decide_eq_true_iff]
theorem dw(a:ByteArray):¬kl a a:=by rw[HL];exact List.lt_irrefl _
theorem jG{a b c:ByteArray}(h:kl a b)(k:kl b c):kl a c:=by rw[HL]at*;exact List.lt_trans h k
theorem tri:∀x y:List UInt8,Op.bytesLess x y=false→x≠y→Op.bytesLess y x=true
 | [],[],_,h=>absurd rfl h
 | [],_::_,h,_=>by simp[Op.bytesLess]at h
 |_::_,[],_,_=>rfl
 |a::x,b::y,h,hn=>by
  simp only[Op.bytesLess,Bool.or_eq_false_iff,decide_eq_false_iff_not,Bool.and_eq_false_iff]at h;simp only[Op.bytesLess,Bool.or_eq_true,decide_eq_true_iff,aY];by_cases e:a=b
  ·subst e
   right;refine⟨by simp,tri x y ?_ fun e=>hn (by rw[e])⟩
   rcases h.2 with h|h
   ·simp at h
   ·exact h
  ·left
   have h1:=h.1;rw[UInt8.lt_iff_toNat_lt]at h1⊢;have:a.toNat≠b.toNat:=fun h=>e (jL.1 h)
   omega
theorem rH{a b:ByteArray}(h:¬kl a b)(k:a≠b):kl b a:=tri _ _ (by unfold kl at h;simpa using h) fun e=>k (ym.1 e)
def EA(a b:ByteArray):Int:=if kl a b then-1 else if a=b then 0 else 1
theorem FU{x:ByteArray}{h:ad}{K:Bool→ad→Prop}(hk:K false h):HC PG l4 [.string x] [.c .bool] K h:=by
 refine zF x ?_;unfold sF;simpa using hk
theorem H7{a b:ByteArray}{h:ad}{K:Int→ad→Prop}(hk:K (EA a b) h):HC PG mW [.string a,.string b] [.c (.int .i64)] K h:=by
 refine xq a b ?_;unfold qx;refine FU (FU (aj.2 (aj.2 ?_)));unfold EA at hk;refine CondP.intro (fun e=>?_) fun e=>?_
 ·rw[if_pos (show kl a b from e)]at hk;exact hk
 ·have hn:¬kl a b:=fun h=>by rw[show Op.bytesLess a.toList b.toList=true from h]at e;cases e
  rw[if_neg hn]at hk;rw[e];refine CondP.intro (fun e2=>?_) fun e2=>?_
  ·rw[if_neg (fun h=>by subst h;simp at e2)]at hk;exact hk
  ·have:a.toList=b.toList:=by simpa using e2
   rw[if_pos (ym.1 this)]at hk;exact hk
theorem FH{p:Pr}{k:ByteArray}{h:ad}{K:Int→ad→Prop}(hk:∀h',Upd No h h'→K (EA p.1 k) h'):HC PG mU [.agg #[.string p.1,.string p.2],.string k] [.c (.int .i64)] K h:=by
 refine ET p k ?_;unfold xE bV aF im B7;have b1:=dj h [.string p.1,.string p.2] al;refine⟨p.1,by rw[fk,cc,bo b1];rfl,H7 (hk _ (Upd.hnew No h _ _))⟩
abbrev d9(l:List Pr):Prop:=l.Pairwise fun p q=>kl p.1 q.1
def sR(l:List Pr)(k:ByteArray):Nat:=(l.takeWhile fun p=>decide (kl p.1 k)).length
def lD(l:List Pr)(k:ByteArray):Bool:=l.any fun p=>decide (p.1=k)
theorem L6{l:List Pr}{k:ByteArray}{i:Nat}(hi:i≤l.length)(h1:∀j (h:j<l.length),j<i→kl l[j].1 k)(h2:∀(h:i<l.length),¬kl l[i].1 k):sR l k=i:=by
 unfold sR;induction l generalizing i with
 |nil=>simp at hi;simp[hi]
 |cons p l ih=>
  rw[List.takeWhile_cons];cases i with
  |zero=>
   have:=h2 (by simp);simp only[List.getElem_cons_zero]at this;rw[if_neg (by simpa using this)];rfl
  |succ i=>
   have:=h1 0 (by simp) (by omega);simp only[List.getElem_cons_zero]at this;rw[if_pos (by simpa using this),ap];congr 1
   refine ih (by simpa using hi) (fun j hj hji=>?_) fun h=>?_
   ·have:=h1 (j+1) (by simpa using hj) (by omega)
    simpa using this
   ·have:=h2 (by simpa using h)
    simpa using this
theorem O6(l:List Pr)(k:ByteArray):sR l k≤l.length:=by
 unfold sR;exact(List.takeWhile_prefix _).length_le
theorem N8{W:Nat→Prop}{h:ad}{s:SliceV}{l:List Pr}(hs:Sl dD 2 W h s l)(hr:d9 l)(hn:l.length≤1000000000)(k:ByteArray){K:Int×Bool→ad→Prop}
  (hk:∀h',Upd No h h'→K ((sR l k:Int),lD l k) h'):HC PG tC [.slice s.a s.len s.cap,.string k] [.c (.int .i64),.c .bool] K h:=by
 refine GB s k ?_;unfold zo ut;refine gT s k _ ?_;unfold ee cn bV aL xM;have hlen:=hs.len;have cmp:∀{p:Pr} {h:ad} {K:Int→ad→Prop},(∀h',Upd No h h'→K (EA p.1 k) h')→HV PG (.func (.func mU) #[] #[]) [.agg #[.string p.1,.string p.2],.string k] [.c (.int .i64)] K h:=fun hk=>HV.mk' (FH hk)
 refine LoopP.ghost (fun(g:Nat×Nat) (t:Int×Int) h'=>t.1=(g.1:Int)∧t.2=(g.2:Int)∧g.1≤g.2∧g.2≤l.length∧Upd No h h'∧(∀j (hj:j<l.length),j<g.1→kl l[j].1 k)∧(∀j (hj:j<l.length),g.2≤j→¬kl l[j].1 k)) (fun g=>g.2-g.1) (0,l.length)
  ⟨rfl,by simp only;omega,by simp,by simp,Upd.refl _ _,fun j hj h=>by omega,fun j hj h=>by simp only at h;omega⟩ ?_
 rintro I ⟨i,j⟩ ⟨ti,tj⟩ h' ⟨e1,e2,hij,hjl,hu,hlo,hhi⟩ hI;simp only at e1 e2 hij hjl hlo hhi;subst e1 e2;have hs':=hs.upd hu fun _ h=>h.elim
 have mono:∀a b (ha:a<l.length) (hb:b<l.length),a<b→kl l[a].1 l[b].1:=fun a b ha hb hab=>List.pairwise_iff_getElem.1 hr a b ha hb hab
 refine av (fun hlt=>?_) fun hge=>?_
 ·have hlt:i<j:=by have:(i:Int)<(j:Int):=hlt;omega
  have em:IntKind.wrap .i64 (dE (IntKind.wrap .u64 (IntKind.wrap .i64 ((i:Int)+(j:Int)))) (2^(min (1:Int).toNat (IntKind.bits .u64))))=(((i+j)/2:Nat):Int):=by
   have e3:(2^(min (1:Int).toNat (IntKind.bits .u64)):Int)=2:=rfl;rw[e3,fL (x:=(i:Int)+(j:Int)) (by omega),Go.IntWalk.u64_in _ (by omega),Int.fdiv_eq_ediv_of_nonneg _ (by omega),fL (by omega)];omega
  refine⟨by decide,?_⟩;simp only[Bd];rw[em];generalize hm:(i+j)/2=m;have hml:m<l.length:=by omega
  obtain⟨a,ha,_,hv⟩:=hs'.at (ae hml);refine⟨by omega,a,ha,l[m].1,hv 0 _ rfl,l[m].2,hv 1 _ rfl,cmp fun h2 hu2=>?_⟩
  refine av (fun hneg=>?_) fun hpos=>?_
  ·have hkl:kl l[m].1 k:=by
    unfold EA at hneg;by_cases hkl:kl l[m].1 k
    ·exact hkl
    ·rw[if_neg hkl]at hneg;split at hneg<;>omega
   refine hI (m+1,j) _ _ ⟨by simp only;rw[fL (by omega)];omega,rfl,by simp only;omega,hjl,hu.tr hu2,fun q hq hqm=>?_,hhi⟩ (by simp only;omega)
   simp only at hqm;rcases cf q m with h|h
   ·exact jG (mono q m hq hml h) hkl
   ·have:q=m:=by omega
    subst this;exact hkl
  ·have hnk:¬kl l[m].1 k:=fun hkl=>hpos (by unfold EA;rw[if_pos hkl];decide)
   refine hI (i,m) _ _ ⟨rfl,rfl,by simp only;omega,by simp only;omega,hu.tr hu2,hlo,fun q hq hqm hqk=>?_⟩ (by simp only;omega)
   simp only at hqm;rcases cf m q with h|h
   ·exact hnk (jG (mono m q hml hq h) hqk)
   ·have:q=m:=by omega
    subst this;exact hnk hqk
 ·have hij:i=j:=by have:¬(i:Int)<(j:Int):=hge;omega
  subst hij;have hp:sR l k=i:=L6 hjl hlo fun hi=>hhi i hi (ag _)
  rw[hp]at hk;refine av (fun hlt=>?_) fun hnl=>?_
  ·have hil:i<l.length:=by have:(i:Int)<(s.len:Int):=hlt;omega
   obtain⟨a,ha,_,hv⟩:=hs'.at (ae hil);refine⟨by simp only;omega,a,ha,l[i].1,hv 0 _ rfl,l[i].2,hv 1 _ rfl,cmp fun h2 hu2=>?_⟩
   have hnk:=hhi i hil (ag _);have et:(EA l[i].1 k==(0:Int))=lD l k:=by
    unfold EA lD;rw[if_neg hnk,Bool.eq_iff_iff,List.any_eq_true];constructor
    ·intro h
     split at h
     ·rename_i e;exact⟨l[i],List.getElem_mem hil,decide_eq_true e⟩
     ·simp at h
    ·rintro⟨p,hp,e⟩
     have e:=of_decide_eq_true e;obtain⟨q,hq,rfl⟩:=List.mem_iff_getElem.1 hp;have:q=i:=by
      rcases Nat.lt_trichotomy q i with h|h|h
      ·exact absurd (e▸hlo q hq h) (dw _)
      ·exact h
      ·exact absurd (e▸mono i q hil hq h) hnk
     subst this;rw[if_pos e];rfl
   rw[et];exact hk _ (hu.tr hu2)
  ·have hil:i=l.length:=by have:¬(i:Int)<(s.len:Int):=hnl;omega
   have et:lD l k=false:=by
    unfold lD;rw[List.any_eq_false];intro p hp e;have e:=of_decide_eq_true e;obtain⟨q,hq,rfl⟩:=List.mem_iff_getElem.1 hp;exact absurd (e▸hlo q hq (by omega)) (dw _)
   rw[et]at hk;exact hk _ hu
end Go.Proofs
