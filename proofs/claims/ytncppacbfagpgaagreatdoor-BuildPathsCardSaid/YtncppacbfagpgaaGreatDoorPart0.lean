/- A part of the proof that the named laws of this program answer true, whatever the input. -/
import Derived.Test.YtncppacbfagpgaaGreatDoorTreeF0
import Derived.Test.YtncppacbfagpgaaGreatDoorTreeF1
import Derived.Test.YtncppacbfagpgaaGreatDoorLaw0
import Derived.Test.YtncppacbfagpgaaGreatDoorLift3
import Derived.Lib.Overlaps
open BitVec renaming ofInt→ap
open ByteArray renaming size_extract→nn
open Int renaming toNat_natCast→aR
open List renaming length_append→ac,filter_append→jA,mem_filter→eh,append_nil→aJ,nil_append→bZ,mem_cons_self→au,pairwise_append→bV,append_assoc→al,mem_singleton→aC,pairwise_cons→aO,mem_cons→ay,mem_append→bI,length_eq_zero_iff→ar,mem_cons_of_mem→aM,append_eq_nil_iff→gw,append_cancel_left→d7,length→dw,getElem_of_mem→aW,length_take→aB,length_drop→aG,take_append_drop→az,length_set→gn,getElem_mem→bE,mem_of_getElem→lI,pairwise_iff_getElem→co,take_succ_cons→eH,drop_succ_cons→iM,flatMap_cons→aQ,take_length→cx,flatMap_append→bL,drop_zero→cp,take_append_of_le_length→eJ,take_of_length_le→aU,drop_left→eW,take_left→fy,size_toArray→dH
open List.Pairwise renaming nil→fA
open Nat renaming zero_le→bi,lt_or_ge→bR,zero_add→aF,le_refl→ao,min_eq_left→bC,sub_zero→dy,min→dz,add_one_mul→fH,one_mul→oJ,le_mul_of_pos_left→nh,min_eq_right→nM
open Option renaming isSome_iff_exists→fY,some→bG
open UInt8 renaming toNat_inj→oU
namespace Go.Proofs
structure WO{α:Type}(lt:α→α→Bool):Prop where
 irr:∀a,lt a a=false
 asy:∀a b,lt a b=true→lt b a=false
 ntr:∀a b c,lt a b=false→lt b c=false→lt a c=false
section
variable {α:Type} {lt:α→α→Bool}
def ER(lt:α→α→Bool)(x a:α):Bool:= !lt a x&& !lt x a
def Srt(lt:α→α→Bool)(l:List α):Prop:=l.Pairwise fun a b=>lt b a=false
structure Eqf(lt:α→α→Bool)(l l':List α):Prop where
 len:l'.length=l.length
 flt:∀x,l'.filter (ER lt x)=l.filter (ER lt x)
structure St(lt:α→α→Bool)(l l':List α):Prop where
 eqf:Eqf lt l l'
 srt:Srt lt l'
theorem Eqf.rfl(l:List α):Eqf lt l l:=⟨_root_.rfl,fun _=>_root_.rfl⟩
theorem Eqf.tr{a b c:List α}(h:Eqf lt a b)(k:Eqf lt b c):Eqf lt a c:=⟨k.len.trans h.len,fun x=>(k.flt x).trans (h.flt x)⟩
theorem Eqf.app{a b a' b':List α}(h:Eqf lt a a')(k:Eqf lt b b'):Eqf lt (a++b) (a'++b'):=
 ⟨by rw[ac,ac,h.len,k.len],fun x=>by rw[jA,jA,h.flt,k.flt]⟩
theorem Gu(w:WO lt)(a:α):ER lt a a=true:=by unfold ER;rw[w.irr];rfl
theorem Eqf.mem(w:WO lt){l l':List α}(h:Eqf lt l l'){a:α}:a∈l'↔a∈l:=by
 have e:=h.flt a;constructor
 ·intro hm
  have:a∈l'.filter (ER lt a):=eh.2 ⟨hm,Gu w a⟩;rw[e]at this;exact(eh.1 this).1
 ·intro hm
  have:a∈l.filter (ER lt a):=eh.2 ⟨hm,Gu w a⟩;rw[←e]at this;exact(eh.1 this).1
theorem MW(w:WO lt){x u v:α}(hu:ER lt x u=true)(hv:ER lt x v=true):lt v u=false:=by
 unfold ER at hu hv;simp only[Bool.and_eq_true,Bool.not_eq_true']at hu hv;exact w.ntr v x u hv.1 hu.2
theorem Eqf.swap(w:WO lt){U V:List α}(h:∀u∈U,∀v∈V,lt v u=true):Eqf lt (U++V) (V++U):=by
 refine⟨by rw[ac,ac,Nat.add_comm],fun x=>?_⟩
 rw[jA,jA];cases hU:U.filter (ER lt x)with
 |nil=>rw[aJ,bZ]
 |cons u us=>
  cases hV:V.filter (ER lt x)with
  |nil=>rw[aJ,bZ]
  |cons v vs=>
   have hu:u∈U.filter (ER lt x):=by rw[hU];exact au ..
   have hv:v∈V.filter (ER lt x):=by rw[hV];exact au ..
   have h1:=eh.1 hu;have h2:=eh.1 hv;have h3:=h u h1.1 v h2.1;rw[MW w h1.2 h2.2]at h3;cases h3
theorem Srt.app{a b:List α}(h:Srt lt a)(k:Srt lt b)(hab:∀x∈a,∀y∈b,lt y x=false):Srt lt (a++b):=bV.2 ⟨h,k,hab⟩
theorem Srt.left{a b:List α}(h:Srt lt (a++b)):Srt lt a:=(bV.1 h).1
theorem Srt.right{a b:List α}(h:Srt lt (a++b)):Srt lt b:=(bV.1 h).2.1
theorem Srt.cross{a b:List α}(h:Srt lt (a++b)):∀x∈a,∀y∈b,lt y x=false:=(bV.1 h).2.2
theorem Srt.nil:Srt lt ([]:List α):=fA
theorem Srt.one(a:α):Srt lt [a]:=List.pairwise_singleton ..
theorem Ha(w:WO lt){S L G:List α}{t:α}(h:St lt S (L++G))(hL:∀l∈L,lt t l=false)(hG:∀g∈G,lt t g=true):St lt (S++ [t]) (L++t::G):=by
 refine⟨(h.eqf.app (Eqf.rfl [t])).tr ?_,?_⟩
 ·rw[al]
  exact(Eqf.rfl L).app (Eqf.swap w (U:=G) (V:= [t]) fun u hu v hv=>by rw[aC.1 hv];exact hG u hu)
 ·refine h.srt.left.app (aO.2 ⟨fun g hg=>w.asy t g (hG g hg),h.srt.right⟩) fun x hx y hy=>?_
  rcases ay.1 hy with rfl|hy
  ·exact hL x hx
  ·exact h.srt.cross x hx y hy
theorem wd(w:WO lt){V1 V2:List α}{u:α}(h:Srt lt (V1++V2))(h1:∀v∈V1,lt v u=true)(h2:∀v∈V2,lt v u=false):St lt ([u]++(V1++V2)) (V1++u::V2):=by
 refine⟨?_,?_⟩
 ·rw[←al]
  have:=(Eqf.swap w (U:= [u]) (V:=V1) fun x hx y hy=>by rw[aC.1 hx];exact h1 y hy).app (Eqf.rfl V2)
  rw[al V1]at this;exact this
 ·refine h.left.app (aO.2 ⟨h2,h.right⟩) fun x hx y hy=>?_
  rcases ay.1 hy with rfl|hy
  ·exact w.asy x y (h1 x hx)
  ·exact h.cross x hx y hy
theorem y8(w:WO lt){U1 U2:List α}{v:α}(h:Srt lt (U1++U2))(h1:∀u∈U1,lt v u=false)(h2:∀u∈U2,lt v u=true):St lt ((U1++U2)++ [v]) (U1++v::U2):=
 Ha w ⟨Eqf.rfl _,h⟩ h1 h2
theorem Dk(w:WO lt){U1 U2 V1 V2 R1 R2:List α}(hU:Srt lt (U1++U2))(hV:Srt lt (V1++V2))(h1:∀v∈V1,∀u∈U2,lt v u=true)(h2:∀u∈U1,∀v∈V2,lt v u=false)(s1:St lt (U1++V1) R1)(s2:St lt (U2++V2) R2):St lt ((U1++U2)++(V1++V2)) (R1++R2):=by
 refine⟨?_,s1.srt.app s2.srt fun x hx y hy=>?_⟩
 ·have e:Eqf lt ((U1++U2)++(V1++V2)) ((U1++V1)++(U2++V2)):=by
   have:=((Eqf.rfl U1).app (Eqf.swap w (U:=U2) (V:=V1) fun u hu v hv=>h1 v hv u hu)).app (Eqf.rfl (lt:=lt) V2)
   simp only[al]at this⊢;exact this
  exact e.tr (s1.eqf.app s2.eqf)
 ·rcases bI.1 ((s1.eqf.mem w).1 hx)with hx|hx<;>rcases bI.1 ((s2.eqf.mem w).1 hy)with hy|hy
  ·exact hU.cross x hx y hy
  ·exact h2 x hx y hy
  ·exact w.asy x y (h1 x hx y hy)
  ·exact hV.cross x hx y hy
inductive Runs(lt:α→α→Bool)(bs:Nat):List α→Prop where
 |last (l:List α):l.length≤bs→Srt lt l→Runs lt bs l
 |more (b l:List α):b.length=bs→Srt lt b→Runs lt bs l→Runs lt bs (b++l)
theorem Runs.split{bs:Nat}{l:List α}(h:Runs lt bs l)(hl:bs≤l.length):∃b r,l=b++r∧b.length=bs∧Srt lt b∧Runs lt bs r:=by
 cases h with
 |last _ h1 h2=>exact⟨l,[],(aJ l).symm,by omega,h2,.last _ (bi _) Srt.nil⟩
 |more b r h1 h2 h3=>exact⟨b,r,_root_.rfl,h1,h2,h3⟩
theorem Runs.short{bs:Nat}{l:List α}(h:Runs lt bs l)(hl:l.length≤bs):Srt lt l:=by
 cases h with
 |last _ h1 h2=>exact h2
 |more b r h1 h2 h3=>
  rw[ac]at hl;have:r= []:=ar.1 (by omega);rw[this,aJ];exact h2
def Full(lt:α→α→Bool)(bs:Nat)(d:List α):Prop:=∀z,Runs lt bs z→Runs lt bs (d++z)
theorem Full.nil{bs:Nat}:Full lt bs ([]:List α):=fun _ h=>h
theorem Full.app{bs:Nat}{d b:List α}(h:Full lt bs d)(hb:b.length=bs)(hs:Srt lt b):Full lt bs (d++b):=fun z hz=>by
 rw[al];exact h _ (.more b z hb hs hz)
end
end Go.Proofs
namespace Go.Proofs
inductive Fo where
 |nil:Fo
 |cons (lab:List UInt8) (val:Option ByteArray) (kids rest:Fo):Fo
abbrev Bn:=List UInt8×Option ByteArray×Fo
def Fo.toL:Fo→List Bn
 | .nil=> []
 | .cons lab w kids rest=>(lab,w,kids)::rest.toL
theorem Fo.toL_cons(lab:List UInt8)(w:Option ByteArray)(kids rest:Fo):(Fo.cons lab w kids rest).toL=(lab,w,kids)::rest.toL:=rfl
def Fo.ofL:List Bn→Fo
 | []=>.nil
 |(lab,w,kids)::l=>.cons lab w kids (Fo.ofL l)
theorem Fo.to_of:∀l:List Bn,(Fo.ofL l).toL=l
 | []=>rfl
 |(_,_,_)::l=>by show _::(Fo.ofL l).toL=_;rw[Fo.to_of l]
theorem Fo.of_to:∀F:Fo,Fo.ofL F.toL=F
 | .nil=>rfl
 | .cons lab w kids rest=>by show Fo.cons lab w kids (Fo.ofL rest.toL)=_;rw[Fo.of_to rest]
def nK:Fo→List UInt8→ByteArray→Prop
 | .nil,_,_=>False
 | .cons lab w kids rest,k,v=>(∃r,k=lab++r∧((r= []∧w=some v)∨nK kids r v))∨nK rest k v
def oZ(w:Option ByteArray)(F:Fo)(k:List UInt8)(v:ByteArray):Prop:=(k= []∧w=some v)∨nK F k v
def p4(n:Bn)(k:List UInt8)(v:ByteArray):Prop:=∃r,k=n.1++r∧oZ n.2.1 n.2.2 r v
theorem eY:∀{F:Fo} {k:List UInt8} {v:ByteArray},nK F k v↔∃n∈F.toL,p4 n k v
 | .nil,_,_=>by simp[nK,Fo.toL]
 | .cons lab w kids rest,k,v=>by
  rw[Fo.toL_cons];unfold nK;rw[eY (F:=rest)];constructor
  ·rintro(h|⟨n,hn,h⟩)
   ·exact⟨_,au ..,h⟩
   ·exact⟨n,aM _ hn,h⟩
  ·rintro⟨n,hn,h⟩
   rcases ay.1 hn with rfl|hn
   ·exact .inl h
   ·exact .inr ⟨n,hn,h⟩
def hd(k:List UInt8):Nat:=(k.headD 0).toNat
theorem mL{a b:List UInt8}(h:a≠[]):hd (a++b)=hd a:=by
 cases a with
 |nil=>exact absurd rfl h
 |cons x a=>rfl
theorem Nk(a:List UInt8):hd a<256:=UInt8.toNat_lt _
def eS:Fo→Prop
 | .nil=>True
 | .cons lab w kids rest=>lab≠[]∧(w.isSome∨2≤kids.toL.length)∧eS kids∧(∀n∈rest.toL,hd lab<hd n.1)∧eS rest
def Fd(n:Bn):Prop:=n.1≠[]∧(n.2.1.isSome∨2≤n.2.2.toL.length)∧eS n.2.2
theorem dT:∀{F:Fo},eS F↔F.toL.Pairwise (fun m n=>hd m.1<hd n.1)∧∀n∈F.toL,Fd n
 | .nil=>by simp[eS,Fo.toL]
 | .cons lab w kids rest=>by
  rw[Fo.toL_cons,aO];show(lab≠[]∧(w.isSome∨2≤kids.toL.length)∧eS kids∧(∀n∈rest.toL,hd lab<hd n.1)∧eS rest)↔_
  rw[dT (F:=rest)];constructor
  ·rintro⟨h1,h2,h3,h4,h5,h6⟩
   refine⟨⟨h4,h5⟩,fun n hn=>?_⟩
   rcases ay.1 hn with rfl|hn
   ·exact⟨h1,h2,h3⟩
   ·exact h6 n hn
  ·rintro⟨⟨h4,h5⟩,h6⟩
   have:=h6 _ (au ..);exact⟨this.1,this.2.1,this.2.2,h4,h5,fun n hn=>h6 n (aM _ hn)⟩
theorem kE:∀{F:Fo},eS F→∀n∈F.toL,∃r v,oZ n.2.1 n.2.2 r v
 | .nil,_,n,hn=>by simp[Fo.toL]at hn
 | .cons lab w kids rest,h,n,hn=>by
  rcases ay.1 hn with rfl|hn
  ·rcases h.2.1 with hw|hk
   ·obtain⟨v,hv⟩:=fY.1 hw
    exact⟨[],v,.inl ⟨rfl,hv⟩⟩
   ·have ih:=kE h.2.2.1
    have⟨m,hm⟩:∃m,m∈kids.toL:=by
     cases hl:kids.toL with
     |nil=>rw[hl]at hk;simp at hk
     |cons m l=>exact⟨m,au ..⟩
    obtain⟨r,v,hr⟩:=ih m hm;exact⟨m.1++r,v,.inr (eY.2 ⟨m,hm,r,rfl,hr⟩)⟩
  ·exact kE h.2.2.2.2 n hn
theorem mK{F:Fo}(h:eS F){k:List UInt8}{v:ByteArray}(hi:nK F k v):k≠[]:=by
 obtain⟨n,hn,r,rfl,_⟩:=eY.1 hi;have:=((dT.1 h).2 n hn).1;intro e;exact this (gw.1 e).1
theorem pw{F:Fo}(h:eS F){k:List UInt8}{v:ByteArray}(hi:nK F k v):∃n∈F.toL,hd n.1=hd k∧p4 n k v:=by
 obtain⟨n,hn,r,e,hr⟩:=eY.1 hi;exact⟨n,hn,by rw[e,mL ((dT.1 h).2 n hn).1],r,e,hr⟩
theorem uc{F:Fo}(h:eS F){m n:Bn}(hm:m∈F.toL)(hn:n∈F.toL)(e:hd m.1=hd n.1):m=n:=by
 have hp:=(dT.1 h).1;revert hm hn;generalize F.toL=l at*;clear h;induction l with
 |nil=>intro hm;simp at hm
 |cons a l ih=>
  have hp:=aO.1 hp;intro hm hn;rcases ay.1 hm with e1|hm1
  ·rcases ay.1 hn with e2|hn1
   ·rw[e1,e2]
   ·have:=hp.1 n hn1;rw[←e1]at this;omega
  ·rcases ay.1 hn with e2|hn1
   ·have:=hp.1 m hm1;rw[←e2]at this;omega
   ·exact ih hp.2 hm1 hn1
def Br(P:List UInt8→ByteArray→Prop):Prop:=(∃v,P [] v)∨∃j k u v,P j u∧P k v∧j≠[]∧k≠[]∧hd j≠hd k
theorem BE{w:Option ByteArray}{F:Fo}(h:eS F):(w.isSome∨2≤F.toL.length)↔Br (oZ w F):=by
 constructor
 ·rintro(hw|hl)
  ·obtain⟨v,hv⟩:=fY.1 hw
   exact .inl ⟨v,.inl ⟨rfl,hv⟩⟩
  ·right
   have hs:=kE h;have hc:=dT.1 h;match hL:F.toL,hl with
   |a::b::l,_=>
    have ha:a∈F.toL:=by rw[hL];simp
    have hb:b∈F.toL:=by rw[hL];simp
    obtain⟨r,v,hr⟩:=hs a ha;obtain⟨s,u,hs⟩:=hs b hb;have h1:=(hc.2 a ha).1;have h2:=(hc.2 b hb).1;have:=hc.1;rw[hL]at this;have h3:=(aO.1 this).1 b (au ..);refine⟨a.1++r,b.1++s,v,u,.inr (eY.2 ⟨a,ha,r,rfl,hr⟩),.inr (eY.2 ⟨b,hb,s,rfl,hs⟩),?_,?_,?_⟩
    ·intro e;exact h1 (gw.1 e).1
    ·intro e;exact h2 (gw.1 e).1
    ·rw[mL h1,mL h2];omega
 ·rintro(⟨v,hv⟩|⟨j,k,u,v,hj,hk,nj,nk,hne⟩)
  ·rcases hv with⟨_,hv⟩|hv
   ·left;rw[hv];rfl
   ·exact absurd rfl (mK h hv)
  ·right
   rcases hj with⟨e,_⟩|hj
   ·exact absurd e nj
   rcases hk with⟨e,_⟩|hk
   ·exact absurd e nk
   obtain⟨m,hm,em,_⟩:=pw h hj;obtain⟨n,hn,en,_⟩:=pw h hk;match hL:F.toL with
   | []=>rw[hL]at hm;simp at hm
   | [a]=>
    rw[hL]at hm hn;rw[aC.1 hm]at em;rw[aC.1 hn]at en;omega
   |a::b::l=>simp
end Go.Proofs
namespace Go.Proofs
theorem Jk{m n:Bn}(hb:Br (oZ m.2.1 m.2.2))(h:∀k v,p4 m k v→p4 n k v):∃t,m.1=n.1++t:=by
 rcases hb with⟨v,hv⟩|⟨j,k,u,v,hj,hk,nj,nk,hne⟩
 ·obtain⟨r,e,_⟩:=h m.1 v ⟨[],(aJ _).symm,hv⟩
  exact⟨r,e⟩
 ·obtain⟨r,e,_⟩:=h (m.1++j) u ⟨j,rfl,hj⟩
  obtain⟨s,f,_⟩:=h (m.1++k) v ⟨k,rfl,hk⟩;rcases List.append_eq_append_iff.1 e with⟨a,h1,h2⟩|⟨a,h1,h2⟩
  ·rw[h1,al]at f
   have f:=d7 f;cases a with
   |nil=>exact⟨[],by rw[h1];simp⟩
   |cons x a=>
    rw[h2]at hne;rw[f]at hne;exact absurd rfl hne
  ·exact⟨a,h1⟩
theorem H9:∀{F F':Fo},eS F→eS F'→(∀k v,nK F k v↔nK F' k v)→F=F'
 | .nil,.nil,_,_,_=>rfl
 | .nil,.cons lab w kids rest,_,h,he=>by
  obtain⟨r,v,hr⟩:=kE h _ (au ..);exact((he _ v).2 (eY.2 ⟨_,au ..,r,rfl,hr⟩)).elim
 | .cons lab w kids rest,.nil,h,_,he=>by
  obtain⟨r,v,hr⟩:=kE h _ (au ..);exact((he _ v).1 (eY.2 ⟨_,au ..,r,rfl,hr⟩)).elim
 | .cons lab w kids rest,.cons lab' w' kids' rest',h,h',he=>by
  have low:∀{lab w kids rest} {F:Fo},eS (.cons lab w kids rest)→eS F→(∀k v,nK F k v→nK (.cons lab w kids rest) k v)→∀n∈F.toL,hd lab≤hd n.1:=by
   intro lab w kids rest F h hF hi n hn;obtain⟨r,v,hr⟩:=kE hF n hn;obtain⟨m,hm,e,_⟩:=pw h (hi _ v (eY.2 ⟨n,hn,r,rfl,hr⟩));rw[mL ((dT.1 hF).2 n hn).1]at e;rcases ay.1 hm with rfl|hm
   ·simp only at e;omega
   ·have:=h.2.2.2.1 m hm;omega
  have e1:=low h h' (fun k v=>(he k v).2) _ (au ..)
  have e2:=low h' h (fun k v=>(he k v).1) _ (au ..)
  simp only at e1 e2;have ehd:hd lab=hd lab':=by omega
  have nod:∀{lab w kids rest lab' w' kids' rest'},eS (.cons lab w kids rest)→eS (.cons lab' w' kids' rest')→hd lab=hd lab'→(∀k v,nK (.cons lab w kids rest) k v→nK (.cons lab' w' kids' rest') k v)→(∀k v,p4 (lab,w,kids) k v→p4 (lab',w',kids') k v)∧(∀k v,nK rest k v→nK rest' k v):=by
   intro lab w kids rest lab' w' kids' rest' h h' ehd hi;refine⟨fun k v hk=>?_,fun k v hk=>?_⟩
   ·obtain⟨n,hn,e,hr⟩:=pw h' (hi k v (eY.2 ⟨_,au ..,hk⟩))
    obtain⟨r,rfl,_⟩:=hk;rw[mL h.1]at e;rw[←uc h' hn (au ..) (by simp only;omega)];exact hr
   ·obtain⟨m,hm,em,_⟩:=pw h.2.2.2.2 hk
    have:=h.2.2.2.1 m hm;obtain⟨n,hn,e,hr⟩:=pw h' (hi k v (Or.inr hk));rcases ay.1 hn with rfl|hn
    ·simp only at e;omega
    ·exact eY.2 ⟨n,hn,hr⟩
  have⟨n1,r1⟩:=nod h h' ehd fun k v=>(he k v).1
  have⟨n2,r2⟩:=nod h' h ehd.symm fun k v=>(he k v).2
  have erest:rest=rest':=H9 h.2.2.2.2 h'.2.2.2.2 fun k v=>⟨r1 k v,r2 k v⟩
  obtain⟨t,ht⟩:=Jk (m:=(lab,w,kids)) (n:=(lab',w',kids')) ((BE h.2.2.1).1 h.2.1) n1;obtain⟨t',ht'⟩:=Jk (m:=(lab',w',kids')) (n:=(lab,w,kids)) ((BE h'.2.2.1).1 h'.2.1) n2;simp only at ht ht';have hlab:lab=lab':=by
   have:t= []:=by
    have h1:=congrArg dw ht;have h2:=congrArg dw ht';rw[ac]at h1 h2;exact ar.1 (by omega)
   rw[ht,this,aJ]
  subst hlab;have inR:∀{w kids w' kids'},(∀k v,p4 (lab,w,kids) k v→p4 (lab,w',kids') k v)→∀k v,oZ w kids k v→oZ w' kids' k v:=by
   intro w kids w' kids' hn k v hk;obtain⟨r,e,hr⟩:=hn (lab++k) v ⟨k,rfl,hk⟩;rw[d7 e];exact hr
  have i1:=inR n1;have i2:=inR n2;have ew:w=w':=by
   have wv:∀{w kids w' kids'},eS kids'→(∀k v,oZ w kids k v→oZ w' kids' k v)→∀v,w=some v→w'=some v:=by
    intro w kids w' kids' hc hi v hv;rcases hi [] v (.inl ⟨rfl,hv⟩)with⟨_,h⟩|h
    ·exact h
    ·exact absurd rfl (mK hc h)
   exact Option.ext fun v=>⟨wv h'.2.2.1 i1 v,wv h.2.2.1 i2 v⟩
  have kd:∀{w kids w' kids'},eS kids→(∀k v,oZ w kids k v→oZ w' kids' k v)→∀k v,nK kids k v→nK kids' k v:=by
   intro w kids w' kids' hc hi k v hk;rcases hi k v (.inr hk)with⟨e,_⟩|h
   ·exact absurd e (mK hc hk)
   ·exact h
  have ekids:kids=kids':=H9 h.2.2.1 h'.2.2.1 fun k v=>⟨kd h.2.2.1 i1 k v,kd h'.2.2.1 i2 k v⟩
  rw[ew,ekids,erest]
def qT(P P':List UInt8→ByteArray→Prop)(k:List UInt8)(v:ByteArray):Prop:=∀k' v',P' k' v'↔(k'=k∧v'=v)∨(k'≠k∧P k' v')
theorem Dz{w:Option ByteArray}{F:Fo}(h:eS F)(v:ByteArray):qT (oZ w F) (oZ (some v) F) [] v:=by
 intro k' v';unfold oZ;constructor
 ·rintro(⟨e,f⟩|hi)
  ·exact .inl ⟨e,(bG.inj f).symm⟩
  ·exact .inr ⟨mK h hi,.inr hi⟩
 ·rintro(⟨e,f⟩|⟨e,⟨f,_⟩|hi⟩)
  ·exact .inl ⟨e,by rw[f]⟩
  ·exact absurd f e
  ·exact .inr hi
theorem yc{w:Option ByteArray}{F F':Fo}{k:List UInt8}{v:ByteArray}(hk:k≠[])(h:qT (nK F) (nK F') k v):qT (oZ w F) (oZ w F') k v:=by
 intro k' v';unfold oZ;rw[h k' v'];constructor
 ·rintro(⟨e,f⟩|hi|hi)
  ·exact .inr ⟨fun e'=>hk (e'.symm.trans e),.inl ⟨e,f⟩⟩
  ·exact .inl hi
  ·exact .inr ⟨hi.1,.inr hi.2⟩
 ·rintro(hi|⟨e,hi|hi⟩)
  ·exact .inr (.inl hi)
  ·exact .inl hi
  ·exact .inr (.inr ⟨e,hi⟩)
theorem JY{F:Fo}{k:List UInt8}{v:ByteArray}{i:Nat}(h:eS F)(hk:k≠[])(hi:∀j (hj:j<F.toL.length),j<i→hd F.toL[j].1<hd k)(hi':∀j (hj:j<F.toL.length),i≤j→hd k<hd F.toL[j].1):eS (.ofL (F.toL.take i++(k,some v,.nil)::F.toL.drop i))∧qT (nK F) (nK (.ofL (F.toL.take i++(k,some v,.nil)::F.toL.drop i))) k v:=by
 have hc:=dT.1 h;have t1:∀n∈F.toL.take i,hd n.1<hd k:=fun n hn=>by
  obtain⟨j,hj,e⟩:=aW hn;rw[aB]at hj;rw[←e,List.getElem_take];exact hi j (by omega) (by omega)
 have t2:∀n∈F.toL.drop i,hd k<hd n.1:=fun n hn=>by
  obtain⟨j,hj,e⟩:=aW hn;rw[aG]at hj;rw[←e,List.getElem_drop];exact hi' _ (by omega) (by omega)
 have mem:∀n,n∈F.toL.take i++(k,some v,.nil)::F.toL.drop i↔n=(k,some v,Fo.nil)∨n∈F.toL:=fun n=>by
  conv=>rhs;rw[←az i F.toL]
  simp only[bI,ay];exact⟨fun h=>h.elim (fun h=>.inr (.inl h)) fun h=>h.elim .inl fun h=>.inr (.inr h),fun h=>h.elim (fun h=>.inr (.inl h)) fun h=>h.elim .inl fun h=>.inr (.inr h)⟩
 refine⟨dT.2 ⟨?_,?_⟩,fun k' v'=>?_⟩
 ·rw[Fo.to_of]
  have hp:=hc.1;rw[←az i F.toL,bV]at hp;refine bV.2 ⟨hp.1,aO.2 ⟨t2,hp.2.1⟩,fun a ha b hb=>?_⟩
  rcases ay.1 hb with rfl|hb
  ·exact t1 a ha
  ·exact hp.2.2 a ha b hb
 ·rw[Fo.to_of]
  intro n hn;rcases(mem n).1 hn with rfl|hn
  ·exact⟨hk,.inl rfl,trivial⟩
  ·exact hc.2 n hn
 ·rw[eY,eY,Fo.to_of]
  constructor
  ·rintro⟨n,hn,r,e,hr⟩
   rcases(mem n).1 hn with rfl|hn
   ·rcases hr with⟨rfl,f⟩|f
    ·exact .inl ⟨by rw[e];exact aJ _,(bG.inj f).symm⟩
    ·exact f.elim
   ·right
    refine⟨fun e'=>?_,n,hn,r,e,hr⟩
    have e2:hd k=hd n.1:=by rw[←e',e,mL (hc.2 n hn).1]
    obtain⟨j,hj,ej⟩:=aW hn;rcases bR j i with h1|h1
    ·have:=hi j hj h1;rw[ej]at this;omega
    ·have:=hi' j hj h1;rw[ej]at this;omega
  ·rintro(⟨rfl,rfl⟩|⟨_,n,hn,h⟩)
   ·exact⟨(k',some v',.nil),(mem _).2 (.inl rfl),[],(aJ _).symm,.inl ⟨rfl,rfl⟩⟩
   ·exact⟨n,(mem _).2 (.inr hn),h⟩
theorem kC{α:Type}{l:List α}{i:Nat}(hi:i<l.length){a x:α}(nd:∀j (hj:j<l.length),j≠i→l[j]≠l[i]):x∈l.set i a↔x=a∨(x∈l∧x≠l[i]):=by
 constructor
 ·intro h
  obtain⟨j,hj,e⟩:=aW h;rw[gn]at hj;rw[List.getElem_set]at e;split at e
  ·exact .inl e.symm
  ·rename_i hne
   exact .inr ⟨by rw[←e];exact bE hj,by rw[←e];exact nd j hj fun e=>hne e.symm⟩
 ·rintro(rfl|⟨h,hne⟩)
  ·exact lI (i:=i) (h:=by simpa using hi) (by simp)
  ·obtain⟨j,hj,e⟩:=aW h
   have:i≠j:=by rintro rfl;exact hne e.symm
   exact lI (i:=j) (h:=by simpa using hj) (by rw[List.getElem_set_ne this];exact e)
theorem Jt{F:Fo}{i:Nat}{m:Bn}(h:eS F)(hi:i<F.toL.length)(hm:Fd m)(e:hd m.1=hd F.toL[i].1):eS (.ofL (F.toL.set i m)):=by
 have hc:=dT.1 h;rw[dT,Fo.to_of];refine⟨?_,fun n hn=>?_⟩
 ·rw[co]at hc⊢
  intro a b ha hb hab;rw[gn]at ha hb;rw[List.getElem_set,List.getElem_set];split
  ·rename_i ea;subst ea
   rw[if_neg (by omega),e];exact hc.1 _ _ ha hb hab
  ·split
   ·rename_i eb;subst eb
    rw[e];exact hc.1 _ _ ha hb hab
   ·exact hc.1 _ _ ha hb hab
 ·rcases List.mem_or_eq_of_mem_set hn with hn|rfl
  ·exact hc.2 n hn
  ·exact hm
theorem rU{F:Fo}(h:eS F){i:Nat}(hi:i<F.toL.length)(j:Nat)(hj:j<F.toL.length)(hne:j≠i):F.toL[j]≠F.toL[i]:=by
 have hc:=(dT.1 h).1;rw[co]at hc;intro e;rcases Nat.lt_or_gt_of_ne hne with hl|hl
 ·have:=hc j i hj hi hl;rw[e]at this;omega
 ·have:=hc i j hi hj hl;rw[e]at this;omega
theorem FS{F:Fo}{i:Nat}{m:Bn}{k:List UInt8}{v:ByteArray}(h:eS F)(hi:i<F.toL.length)(ek:hd F.toL[i].1=hd k)(hp:qT (p4 F.toL[i]) (p4 m) k v):qT (nK F) (nK (.ofL (F.toL.set i m))) k v:=by
 intro k' v';have hc:=dT.1 h;rw[eY,eY,Fo.to_of];constructor
 ·rintro⟨n,hn,hr⟩
  rcases(kC hi (rU h hi)).1 hn with rfl|⟨hn,hne⟩
  ·rcases(hp k' v').1 hr with h1|⟨h1,h2⟩
   ·exact .inl h1
   ·exact .inr ⟨h1,_,bE hi,h2⟩
  ·refine .inr ⟨fun e=>hne ?_,n,hn,hr⟩
   obtain⟨r,e',_⟩:=hr;refine uc h hn (bE hi) ?_;rw[ek,←e,e',mL (hc.2 n hn).1]
 ·rintro(h1|⟨h1,n,hn,hr⟩)
  ·exact⟨m,(kC hi (rU h hi)).2 (.inl rfl),(hp k' v').2 (.inl h1)⟩
  ·by_cases e:n=F.toL[i]
   ·exact⟨m,(kC hi (rU h hi)).2 (.inl rfl),(hp k' v').2 (.inr ⟨h1,by rw[←e];exact hr⟩)⟩
   ·exact⟨n,(kC hi (rU h hi)).2 (.inr ⟨hn,e⟩),hr⟩
theorem JX{lab r:List UInt8}{w w':Option ByteArray}{F F':Fo}{v:ByteArray}(h:qT (oZ w F) (oZ w' F') r v):qT (p4 (lab,w,F)) (p4 (lab,w',F')) (lab++r) v:=by
 intro k' v';constructor
 ·rintro⟨s,e,hs⟩
  rcases(h s v').1 hs with⟨rfl,rfl⟩|⟨h1,h2⟩
  ·exact .inl ⟨e,rfl⟩
  ·exact .inr ⟨fun e'=>h1 (d7 (e.symm.trans e')),s,e,h2⟩
 ·rintro(⟨rfl,rfl⟩|⟨h1,s,e,hs⟩)
  ·exact⟨r,rfl,(h r v').2 (.inl ⟨rfl,rfl⟩)⟩
  ·exact⟨s,e,(h s v').2 (.inr ⟨fun e'=>h1 (by rw[e,e']),hs⟩)⟩
def cm:List UInt8→List UInt8→Nat
 |a::x,b::y=>if a=b then cm x y+1 else 0
 |_,_=>0
theorem LT:∀(x y:List UInt8),cm x y≤x.length∧cm x y≤y.length
 | [],_=>by simp[cm]
 |_::_,[]=>by simp[cm]
 |a::x,b::y=>by unfold cm;have:=LT x y;split<;>simp<;>omega
theorem Jr:∀(x y:List UInt8),x.take (cm x y)=y.take (cm x y)
 | [],_=>by simp[cm]
 |_::_,[]=>by simp[cm]
 |a::x,b::y=>by
  unfold cm;split
  ·rename_i e;rw[eH,eH,Jr x y,e]
  ·simp
theorem EQ:∀(x y:List UInt8),cm x y<x.length→cm x y<y.length→hd (x.drop (cm x y))≠hd (y.drop (cm x y))
 | [],_=>by simp[cm]
 |_::_,[]=>by simp[cm]
 |a::x,b::y=>by
  unfold cm;split
  ·rename_i e
   intro h1 h2;rw[List.length_cons]at h1 h2;rw[iM,iM];exact EQ x y (by omega) (by omega)
  ·rename_i e
   intro _ _ h;exact e (oU.1 h)
theorem LR{x y:List UInt8}(hx:x≠[])(hy:y≠[])(h:hd x=hd y):0<cm x y:=by
 match x,y,hx,hy with
 |a::x,b::y,_,_=>
  unfold cm;rw[if_pos (show a=b from oU.1 h)]
  omega
theorem DL{lab:List UInt8}{w:Option ByteArray}{F:Fo}(c:Nat):∀k v,p4 (lab.take c,none,.cons (lab.drop c) w F .nil) k v↔p4 (lab,w,F) k v:=by
 intro k v;constructor
 ·rintro⟨r,e,⟨_,h⟩|(⟨s,rfl,h⟩|h)⟩
  ·cases h
  ·exact⟨s,by rw[e];simp only;rw[←al,az],h⟩
  ·exact h.elim
 ·rintro⟨s,e,h⟩
  exact⟨lab.drop c++s,by rw[e];simp only;rw[←al,az],.inr (.inl ⟨s,rfl,h⟩)⟩
theorem L0{lab r:List UInt8}{w w':Option ByteArray}{F F':Fo}{v:ByteArray}(hl:lab≠[])(hb:w.isSome∨2≤F.toL.length)(hF:eS F)(hne:r≠[]→hd r≠hd lab)(h:qT (oZ none (.cons lab w F .nil)) (oZ w' F') r v):Br (oZ w' F'):=by
 by_cases e:r= []
 ·subst e
  exact .inl ⟨v,(h [] v).2 (.inl ⟨rfl,rfl⟩)⟩
 ·have hc:eS (.cons lab w F .nil):=⟨hl,hb,hF,fun n hn=>by simp[Fo.toL]at hn,trivial⟩
  obtain⟨s,u,hs⟩:=kE hc _ (au ..);simp only at hs;have e2:hd (lab++s)=hd lab:=mL hl;refine .inr ⟨r,lab++s,v,u,(h r v).2 (.inl ⟨rfl,rfl⟩),(h _ u).2 (.inr ⟨fun e'=>hne e (by rw[←e',e2]),.inr (.inl ⟨s,rfl,hs⟩)⟩),e,fun e'=>hl (gw.1 e').1,by rw[e2];exact hne e⟩
theorem M2{P P':List UInt8→ByteArray→Prop}{k:List UInt8}{v:ByteArray}(hb:Br P)(h:qT P P' k v):Br P':=by
 have keep:∀j u,P j u→∃u',P' j u':=fun j u hj=>by
  by_cases e:j=k
  ·exact⟨v,(h j v).2 (.inl ⟨e,rfl⟩)⟩
  ·exact⟨u,(h j u).2 (.inr ⟨e,hj⟩)⟩
 rcases hb with⟨u,hu⟩|⟨j,k',u,u',hj,hk,r⟩
 ·obtain⟨u',h'⟩:=keep [] u hu
  exact .inl ⟨u',h'⟩
 ·obtain⟨a,ha⟩:=keep j u hj
  obtain⟨b,hb⟩:=keep k' u' hk;exact .inr ⟨j,k',a,b,ha,hb,r⟩
end Go.Proofs
namespace Go.Proofs
open Go.Lift
theorem G0(n:Int):0≤IntKind.wrap .u64 n∧IntKind.wrap .u64 n<18446744073709551616:=by rw[IntKind.wrap_u64];omega
theorem fl{x:Int}(h: -4611686018427387904≤x∧x≤4611686018427387904):IntKind.wrap .i64 x=x:=Go.IntWalk.i64_in _ (by omega)
theorem eu{i n:Nat}(h:i<n)(hn:n≤4611686018427387904):IntKind.wrap .i64 ((i:Int)+1)=((i+1:Nat):Int):=by rw[fl (by omega)];omega
theorem sh{h:ae}{b i:Nat}{c:Array Value}{t:TypeId}{v:Value}{k:ae→Prop}(hb:h[b]? =some (.cells c t (0,0)))
  (hk:∀h',h'[b]? =some (.cells (c.setIfInBounds i v) t (0,0))→Upd (· =b) h h'→k h'):At (hset h ⟨b,i,none⟩ v) k:=by
 refine hk _ ?_ (Upd.hset _ _ rfl);rw[Bj hb,ia hb]
def L7(a b:Int):Int:=IntKind.wrap .u64 (ap (IntKind.bits .u64) a&&&ap (IntKind.bits .u64) b).toNat
def fC(a b:Int):Int:=IntKind.wrap .u64 (ap (IntKind.bits .u64) a^^^ap (IntKind.bits .u64) b).toNat
def Lv(a b:Int):Int:=IntKind.wrap .u64 (ap (IntKind.bits .u64) a|||ap (IntKind.bits .u64) b).toNat
def Hk(x n:Int):Int:=
 Lv (IntKind.wrap .u64 (x*2^(min (L7 (IntKind.wrap .u64 n) 63).toNat (IntKind.bits .u64)))) (Int.fdiv x (2^(min (IntKind.wrap .u64 (64-L7 (IntKind.wrap .u64 n) 63)).toNat (IntKind.bits .u64))))
theorem x6{x n:Int}{h:ae}{K:Int→ae→Prop}(hk:K (Hk x n) h):HC PG cP [.int .u64 x,.int .i64 n] [.c (.int .u64)] K h:=by
 refine qU x n ?_;unfold lX;exact⟨(G0 _).1,(G0 _).1,hk⟩
abbrev Q4:=Int×Int×Int×Int
def q4(s:Q4):Array Value:= #[.int .u64 s.1,.int .u64 s.2.1,.int .u64 s.2.2.1,.int .u64 s.2.2.2]
def M6(a b:Int):Int:=IntKind.wrap .u64 (a+b)
def Mj(s:Q4):Q4:=(M6 s.1 s.2.1,s.2)
def Mz(s:Q4):Q4:=(s.1,fC (Hk s.2.1 13) s.1,s.2.2)
def Nf(s:Q4):Q4:=(Hk s.1 32,s.2)
def Nv(s:Q4):Q4:=(s.1,s.2.1,M6 s.2.2.1 s.2.2.2,s.2.2.2)
def NZ(s:Q4):Q4:=(s.1,s.2.1,s.2.2.1,fC (Hk s.2.2.2 16) s.2.2.1)
def N5(s:Q4):Q4:=(M6 s.1 s.2.2.2,s.2)
def Oj(s:Q4):Q4:=(s.1,s.2.1,s.2.2.1,fC (Hk s.2.2.2 21) s.1)
def Ov(s:Q4):Q4:=(s.1,s.2.1,M6 s.2.2.1 s.2.1,s.2.2.2)
def s09(s:Q4):Q4:=(s.1,fC (Hk s.2.1 17) s.2.2.1,s.2.2)
def s10(s:Q4):Q4:=(s.1,s.2.1,Hk s.2.2.1 32,s.2.2.2)
def Hj(s:Q4):Q4:=s10 (s09 (Ov (Oj (N5 (NZ (Nv (Nf (Mz (Mj s)))))))))
def mE:Nat→Q4→Q4
 |0,s=>s
 |n+1,s=>mE n (Hj s)
theorem nB{h:ae}{b i:Nat}{t:TypeId}{s s':Q4}{v:Value}{k:ae→Prop}(hb:h[b]? =some (.cells (q4 s) t (0,0))) (e:(q4 s).setIfInBounds i v=q4 s')
  (hk:∀h',h'[b]? =some (.cells (q4 s') t (0,0))→Upd (· =b) h h'→k h'):At (hset h ⟨b,i,none⟩ v) k:=
 sh hb fun h' hb' hu=>hk h' (e▸hb') hu
theorem Ds{n:Nat}(hn:n≤100){h:ae}{b:Nat}{t:TypeId}{s:Q4}(hb:h[b]? =some (.cells (q4 s) t (0,0))) {K:Unit→ae→Prop}
  (hk:∀h',h'[b]? =some (.cells (q4 (mE n s)) t (0,0))→Upd (· =b) h h'→K () h'):HC PG gQ [.pointer (some ⟨b,0,none⟩),.int .i64 n] [] K h:=by
 refine vB _ _ ?_;unfold pN af cQ;refine LoopP.ghost (fun(g:Nat×Q4) (t':Int) h'=>t'=(g.1:Int)∧g.1≤n∧h'[b]? =some (.cells (q4 g.2) t (0,0))∧Upd (· =b) h h'∧mE (n-g.1) g.2=mE n s) (fun g=>n-g.1) (0,s) ⟨rfl,bi _,hb,Upd.refl _ _,rfl⟩ ?_
 rintro I ⟨i,s1⟩ t' h' ⟨ht,hi,hb1,hu,hr⟩ hI;simp only at ht hi hb1 hr;subst ht;refine aA (fun hlt=>?_) fun hge=>?_
 ·have hlt:i<n:=by omega
  have c:∀{h:ae} {s:Q4} {i:Nat},h[b]? =some (.cells (q4 s) t (0,0))→aE h ⟨b,0+i,none⟩=(q4 s)[i]?:=fun hb=>by rw[aF];exact aS hb
  have w:∀{h:ae} {s:Q4} {i:Nat},h[b]? =some (.cells (q4 s) t (0,0))→i<4→Wr h ⟨b,0+i,none⟩:=fun hb hi=>by rw[aF];exact gN hb hi
  simp only[show((0:Int)).toNat*1=0 from rfl,show((1:Int)).toNat*1=1 from rfl,show((2:Int)).toNat*1=2 from rfl,show((3:Int)).toNat*1=3 from rfl]
  refine⟨_,rfl,by decide,_,c (i:=0) hb1,_,rfl,by decide,_,c (i:=1) hb1,_,rfl,by decide,w (i:=0) hb1 (by decide),nB (s':=Mj s1) hb1 rfl fun h2 hb2 hu2=>?_⟩
  refine⟨_,rfl,by decide,_,c (i:=1) hb2,_,rfl,by decide,_,c (i:=0) hb2,_,rfl,x6 ⟨c (i:=0) hb2,by decide,w (i:=1) hb2 (by decide),nB (s':=Mz (Mj s1)) hb2 rfl fun h3 hb3 hu3=>?_⟩⟩
  refine⟨_,rfl,by decide,_,c (i:=0) hb3,_,rfl,x6 ⟨by decide,w (i:=0) hb3 (by decide),nB (s':=Nf (Mz (Mj s1))) hb3 rfl fun h4 hb4 hu4=>?_⟩⟩
  refine⟨_,rfl,by decide,_,c (i:=2) hb4,_,rfl,by decide,_,c (i:=3) hb4,_,rfl,by decide,w (i:=2) hb4 (by decide),nB (s':=Nv (Nf (Mz (Mj s1)))) hb4 rfl fun h5 hb5 hu5=>?_⟩
  refine⟨_,rfl,by decide,_,c (i:=3) hb5,_,rfl,by decide,_,c (i:=2) hb5,_,rfl,x6 ⟨c (i:=2) hb5,by decide,w (i:=3) hb5 (by decide),nB (s':=NZ (Nv (Nf (Mz (Mj s1))))) hb5 rfl fun h6 hb6 hu6=>?_⟩⟩
  refine⟨_,rfl,by decide,_,c (i:=0) hb6,_,rfl,by decide,_,c (i:=3) hb6,_,rfl,by decide,w (i:=0) hb6 (by decide),nB (s':=N5 (NZ (Nv (Nf (Mz (Mj s1)))))) hb6 rfl fun h7 hb7 hu7=>?_⟩
  refine⟨_,rfl,by decide,_,c (i:=3) hb7,_,rfl,by decide,_,c (i:=0) hb7,_,rfl,x6 ⟨c (i:=0) hb7,by decide,w (i:=3) hb7 (by decide),nB (s':=Oj (N5 (NZ (Nv (Nf (Mz (Mj s1))))))) hb7 rfl fun h8 hb8 hu8=>?_⟩⟩
  refine⟨_,rfl,by decide,_,c (i:=2) hb8,_,rfl,by decide,_,c (i:=1) hb8,_,rfl,by decide,w (i:=2) hb8 (by decide),nB (s':=Ov (Oj (N5 (NZ (Nv (Nf (Mz (Mj s1)))))))) hb8 rfl fun h9 hb9 hu9=>?_⟩
  refine⟨_,rfl,by decide,_,c (i:=1) hb9,_,rfl,by decide,_,c (i:=2) hb9,_,rfl,x6 ⟨c (i:=2) hb9,by decide,w (i:=1) hb9 (by decide),nB (s':=s09 (Ov (Oj (N5 (NZ (Nv (Nf (Mz (Mj s1))))))))) hb9 rfl fun h10 hb10 hu10=>?_⟩⟩
  refine⟨_,rfl,by decide,_,c (i:=2) hb10,_,rfl,x6 ⟨by decide,w (i:=2) hb10 (by decide),nB (s':=Hj s1) hb10 rfl fun h11 hb11 hu11=>?_⟩⟩
  rw[eu hlt (by omega)];refine hI (i+1,Hj s1) _ _ ⟨rfl,hlt,hb11,hu.tr (hu2.tr (hu3.tr (hu4.tr (hu5.tr (hu6.tr (hu7.tr (hu8.tr (hu9.tr (hu10.tr hu11))))))))),?_⟩ (by simp only;omega);simp only;rw[←hr,show n-i=(n-(i+1))+1 by omega];rfl
 ·obtain rfl:i=n:=by omega
  rw[Nat.sub_self]at hr;have hr:s1=mE i s:=hr;rw[←hr]at hk;exact hk _ hb1 hu
end Go.Proofs
namespace Go.Proofs
open Go.Lift
def M1(s:ByteArray)(i:Nat):Int:=match s[i]? with|some b=>(b.toNat:Int)|none=>0
def Oi(b:Int)(n:Int):Int:=IntKind.wrap .u64 ((IntKind.wrap .u64 b)*2^(min n.toNat (IntKind.bits .u64)))
def wj(s:ByteArray):Nat→Int→Int
 |0,t=>t
 |k+1,t=>wj s k (Lv t (if k=0 then IntKind.wrap .u64 (M1 s 0)else Oi (M1 s k) ((8*k:Nat):Int)))
def yX(s:ByteArray):Int:=wj s s.size 0
theorem qk{s:ByteArray}{i:Nat}(h:i<s.size):∃b,s[i]? =some b∧M1 s i=(b.toNat:Int):=⟨s[i],getElem?_pos s i h,by simp[M1,getElem?_pos s i h]⟩
theorem IP{s:ByteArray}(hs:s.size≤8){h:ae}{K:Int→ae→Prop}(hk:K (yX s) h):HC PG r7 [.string s] [.c (.int .u64)] K h:=by
 refine Ir s ?_;unfold BW;refine Join.intro (fun t h'=>h'=h∧1≤s.size∧wj s 1 t=wj s s.size 0) (fun R1 hR1=>?_) ?_
 ·refine Join.intro (fun t h'=>h'=h∧2≤s.size∧wj s 2 t=wj s s.size 0) (fun R2 hR2=>?_) ?_
  ·refine Join.intro (fun t h'=>h'=h∧3≤s.size∧wj s 3 t=wj s s.size 0) (fun R3 hR3=>?_) ?_
   ·refine Join.intro (fun t h'=>h'=h∧4≤s.size∧wj s 4 t=wj s s.size 0) (fun R4 hR4=>?_) ?_
    ·refine Join.intro (fun t h'=>h'=h∧5≤s.size∧wj s 5 t=wj s s.size 0) (fun R5 hR5=>?_) ?_
     ·refine Join.intro (fun t h'=>h'=h∧6≤s.size∧wj s 6 t=wj s s.size 0) (fun R6 hR6=>?_) ?_
      ·refine Join.intro (fun t h'=>h'=h∧7≤s.size∧wj s 7 t=wj s s.size 0) (fun R7 hR7=>?_) ?_
       ·refine CondP.intro (fun e=>?_) fun e8=>?_
        ·have e:s.size=8:=by have:=of_decide_eq_true (by simpa using e:decide ((s.size:Int)=8)=true);omega
         obtain⟨b,hb,hv⟩:=qk (s:=s) (i:=7) (by omega);refine⟨b,by decide,hb,by decide,hR7 _ _ ⟨rfl,by omega,?_⟩⟩
         rw[e,←hv];rfl
        refine CondP.intro (fun e=>?_) fun e7=>?_
        ·have e:s.size=7:=by have:=of_decide_eq_true (by simpa using e:decide ((s.size:Int)=7)=true);omega
         exact hR7 _ _ ⟨rfl,by omega,by rw[e]⟩
        refine CondP.intro (fun e=>?_) fun e6=>?_
        ·have e:s.size=6:=by have:=of_decide_eq_true (by simpa using e:decide ((s.size:Int)=6)=true);omega
         exact hR6 _ _ ⟨rfl,by omega,by rw[e]⟩
        refine CondP.intro (fun e=>?_) fun e5=>?_
        ·have e:s.size=5:=by have:=of_decide_eq_true (by simpa using e:decide ((s.size:Int)=5)=true);omega
         exact hR5 _ _ ⟨rfl,by omega,by rw[e]⟩
        refine CondP.intro (fun e=>?_) fun e4=>?_
        ·have e:s.size=4:=by have:=of_decide_eq_true (by simpa using e:decide ((s.size:Int)=4)=true);omega
         exact hR4 _ _ ⟨rfl,by omega,by rw[e]⟩
        refine CondP.intro (fun e=>?_) fun e3=>?_
        ·have e:s.size=3:=by have:=of_decide_eq_true (by simpa using e:decide ((s.size:Int)=3)=true);omega
         exact hR3 _ _ ⟨rfl,by omega,by rw[e]⟩
        refine CondP.intro (fun e=>?_) fun e2=>?_
        ·have e:s.size=2:=by have:=of_decide_eq_true (by simpa using e:decide ((s.size:Int)=2)=true);omega
         exact hR2 _ _ ⟨rfl,by omega,by rw[e]⟩
        refine CondP.intro (fun e=>?_) fun e1=>?_
        ·have e:s.size=1:=by have:=of_decide_eq_true (by simpa using e:decide ((s.size:Int)=1)=true);omega
         exact hR1 _ _ ⟨rfl,by omega,by rw[e]⟩
        have e:s.size=0:=by
         have q1:¬(s.size:Int)=1:=by simpa using e1
         have q2:¬(s.size:Int)=2:=by simpa using e2
         have q3:¬(s.size:Int)=3:=by simpa using e3
         have q4:¬(s.size:Int)=4:=by simpa using e4
         have q5:¬(s.size:Int)=5:=by simpa using e5
         have q6:¬(s.size:Int)=6:=by simpa using e6
         have q7:¬(s.size:Int)=7:=by simpa using e7
         have q8:¬(s.size:Int)=8:=by simpa using e8
         omega
        unfold yX at hk;rw[e]at hk;exact hk
       ·rintro t _ ⟨rfl,hsz,ht⟩
        obtain⟨b,hb,hv⟩:=qk (s:=s) (i:=6) (by omega);refine⟨b,by decide,hb,by decide,hR6 _ _ ⟨rfl,by omega,?_⟩⟩
        rw[←ht,←hv];rfl
      ·rintro t _ ⟨rfl,hsz,ht⟩
       obtain⟨b,hb,hv⟩:=qk (s:=s) (i:=5) (by omega);refine⟨b,by decide,hb,by decide,hR5 _ _ ⟨rfl,by omega,?_⟩⟩
       rw[←ht,←hv];rfl
     ·rintro t _ ⟨rfl,hsz,ht⟩
      obtain⟨b,hb,hv⟩:=qk (s:=s) (i:=4) (by omega);refine⟨b,by decide,hb,by decide,hR4 _ _ ⟨rfl,by omega,?_⟩⟩
      rw[←ht,←hv];rfl
    ·rintro t _ ⟨rfl,hsz,ht⟩
     obtain⟨b,hb,hv⟩:=qk (s:=s) (i:=3) (by omega);refine⟨b,by decide,hb,by decide,hR3 _ _ ⟨rfl,by omega,?_⟩⟩
     rw[←ht,←hv];rfl
   ·rintro t _ ⟨rfl,hsz,ht⟩
    obtain⟨b,hb,hv⟩:=qk (s:=s) (i:=2) (by omega);refine⟨b,by decide,hb,by decide,hR2 _ _ ⟨rfl,by omega,?_⟩⟩
    rw[←ht,←hv];rfl
  ·rintro t _ ⟨rfl,hsz,ht⟩
   obtain⟨b,hb,hv⟩:=qk (s:=s) (i:=1) (by omega);refine⟨b,by decide,hb,by decide,hR1 _ _ ⟨rfl,by omega,?_⟩⟩
   rw[←ht,←hv];rfl
 ·rintro t _ ⟨rfl,hsz,ht⟩
  obtain⟨b,hb,hv⟩:=qk (s:=s) (i:=0) (by omega);refine⟨b,by decide,hb,?_⟩
  unfold yX at hk;rw[←ht]at hk;rw[←hv];exact hk
end Go.Proofs
namespace Go.Proofs
open Go.Lift
def AI(m:Int)(s:Q4):Q4:=
 let r:=mE 2 (s.1,s.2.1,s.2.2.1,fC s.2.2.2 m)
 (fC r.1 m,r.2)
theorem IT{m:Int}{h:ae}{b:Nat}{t:TypeId}{s:Q4}(hb:h[b]? =some (.cells (q4 s) t (0,0))) {K:Unit→ae→Prop}
  (hk:∀h',h'[b]? =some (.cells (q4 (AI m s)) t (0,0))→Upd (· =b) h h'→K () h'):HC PG kU [.pointer (some ⟨b,0,none⟩),.int .u64 m] [] K h:=by
 refine yy _ _ ?_;unfold rA af cQ;have c:∀{h:ae} {s:Q4} {i:Nat},h[b]? =some (.cells (q4 s) t (0,0))→aE h ⟨b,0+i,none⟩=(q4 s)[i]?:=fun hb=>by rw[aF];exact aS hb
 have w:∀{h:ae} {s:Q4} {i:Nat},h[b]? =some (.cells (q4 s) t (0,0))→i<4→Wr h ⟨b,0+i,none⟩:=fun hb hi=>by rw[aF];exact gN hb hi
 simp only[show((0:Int)).toNat*1=0 from rfl,show((3:Int)).toNat*1=3 from rfl]
 refine⟨_,rfl,by decide,_,c (i:=3) hb,_,rfl,by decide,w (i:=3) hb (by decide),nB (s':=(s.1,s.2.1,s.2.2.1,fC s.2.2.2 m)) hb rfl fun h2 hb2 hu2=>?_⟩
 refine Ds (n:=2) (by omega) hb2 fun h3 hb3 hu3=>?_
 have et:AI m s=(fC (mE 2 (s.1,s.2.1,s.2.2.1,fC s.2.2.2 m)).1 m,(mE 2 (s.1,s.2.1,s.2.2.1,fC s.2.2.2 m)).2):=by unfold AI;rfl
 rw[et]at hk;generalize mE 2 (s.1,s.2.1,s.2.2.1,fC s.2.2.2 m)=r at hb3 hk;refine⟨_,rfl,by decide,_,c (i:=0) hb3,_,rfl,by decide,w (i:=0) hb3 (by decide),nB (s':=(fC r.1 m,r.2)) hb3 rfl fun h4 hb4 hu4=>?_⟩
 exact hk _ hb4 (hu2.tr (hu3.tr hu4))
def AM:Nat→ByteArray→Q4→ByteArray×Q4
 |0,s,q=>(s,q)
 |n+1,s,q=>if 8≤s.size then AM n (s.extract 8 s.size) (AI (yX (s.extract 0 8)) q)else(s,q)
def Oc(r:Q4):Int:=fC (fC (fC r.1 r.2.1) r.2.2.1) r.2.2.2
def Ob(q:Q4):Int:=Oc (mE 4 (q.1,q.2.1,fC q.2.2.1 255,q.2.2.2))
def Ot(n:Nat)(g:ByteArray×Q4):Int:=Ob (AI (Lv (yX g.1) (Oi (n:Int) 56)) g.2)
def Mw(k0 k1:Int)(s:ByteArray):Int:=
 Ot s.size (AM s.size s (fC k0 8317987319222330741,fC k1 7237128888997146477,fC k0 7816392313619706465,fC k1 8387220255154660723))
theorem MS{h29:ae}{b:Nat}{t:TypeId}{r:Q4}(hb:h29[b]? =some (.cells (q4 r) t (0,0))) {K:Int→Prop} (hk:K (Oc r)):
  (((0:Int)≤(0:Int)∧(0:Int)<((4:Nat):Int))∧
   ∃v30:Int,aE h29 (adr ⟨b,0,none⟩ ((0:Int).toNat*1))=some (.int .u64 v30)∧
   (((0:Int)≤(1:Int)∧(1:Int)<((4:Nat):Int))∧
    ∃v31:Int,aE h29 (adr ⟨b,0,none⟩ ((1:Int).toNat*1))=some (.int .u64 v31)∧
    Bd (IntKind.wrap .u64 (ap (IntKind.bits .u64) v30^^^ap (IntKind.bits .u64) v31).toNat:Int) (fun n32=>
     (((0:Int)≤(2:Int)∧(2:Int)<((4:Nat):Int))∧
      ∃v33:Int,aE h29 (adr ⟨b,0,none⟩ ((2:Int).toNat*1))=some (.int .u64 v33)∧
      Bd (IntKind.wrap .u64 (ap (IntKind.bits .u64) n32^^^ap (IntKind.bits .u64) v33).toNat:Int) (fun n34=>
       (((0:Int)≤(3:Int)∧(3:Int)<((4:Nat):Int))∧
        ∃v35:Int,aE h29 (adr ⟨b,0,none⟩ ((3:Int).toNat*1))=some (.int .u64 v35)∧
        Bd (IntKind.wrap .u64 (ap (IntKind.bits .u64) n34^^^ap (IntKind.bits .u64) v35).toNat:Int) (fun n36=>
         K n36))))))):=by
 have c:∀{i:Nat},aE h29 ⟨b,0+i,none⟩=(q4 r)[i]?:=by intro i;rw[aF];exact aS hb
 exact⟨by decide,_,c (i:=0),by decide,_,c (i:=1),by decide,_,c (i:=2),by decide,_,c (i:=3),hk⟩
theorem MR{h24:ae}{b:Nat}{t:TypeId}{q:Q4}(hb:h24[b]? =some (.cells (q4 q) t (0,0))) {K:Unit→ae→Prop}
  (hk:∀h',h'[b]? =some (.cells (q4 (mE 4 (q.1,q.2.1,fC q.2.2.1 255,q.2.2.2))) t (0,0))→Upd (· =b) h24 h'→K () h'):
  (((0:Int)≤(2:Int)∧(2:Int)<((4:Nat):Int))∧
   ∃v25:Int,aE h24 (adr ⟨b,0,none⟩ ((2:Int).toNat*1))=some (.int .u64 v25)∧
   Bd (IntKind.wrap .u64 (ap (IntKind.bits .u64) v25^^^ap (IntKind.bits .u64) 255).toNat:Int) (fun n26=>
    (((0:Int)≤(2:Int)∧(2:Int)<((4:Nat):Int))∧
     (Wr h24 (adr ⟨b,0,none⟩ ((2:Int).toNat*1))∧
      At (hset h24 (adr ⟨b,0,none⟩ ((2:Int).toNat*1)) (.int .u64 n26)) (fun h27=>
       HC PG gQ [.pointer (some ⟨b,0,none⟩),.int .i64 4] [] K h27))))):=by
 have c:∀{i:Nat},aE h24 ⟨b,0+i,none⟩=(q4 q)[i]?:=by intro i;rw[aF];exact aS hb
 refine⟨by decide,_,c (i:=2),by decide,by rw[show((2:Int)).toNat*1=2 from rfl,bQ];exact gN hb (by simp[q4]),?_⟩
 refine nB (s':=(q.1,q.2.1,fC q.2.2.1 255,q.2.2.2)) hb rfl fun h3 hb3 hu3=>?_
 exact Ds (n:=4) (by omega) hb3 fun h4 hb4 hu4=>hk h4 hb4 (hu3.tr hu4)
theorem aX{h:ae}{k:ae→Prop}(hk:k h):At h k:=hk
theorem Nt{k0 k1:Int}{s:ByteArray}{h:ae}{K:Int→ae→Prop}(hk:∀h',Upd No h h'→K (Mw k0 k1 s) h'):HC PG yj [.agg #[.int .u64 k0,.int .u64 k1],.string s] [.c (.int .u64)] K h:=by
 refine KH (k0,k1) s ?_;unfold D6 af cQ;have k1':=Upd.hnew No h [.int .u64 k0,.int .u64 k1] jL;have b1:=bK h [.int .u64 k0,.int .u64 k1] jL;have z1:=ge h [.int .u64 k0,.int .u64 k1] jL;refine aX ?_;simp only[cq h];generalize hnew h [.int .u64 k0,.int .u64 k1] jL=h1 at k1' b1 z1;refine⟨k0,by rw[bQ,aS b1];rfl,k1,by rw[bQ,aS b1];rfl,k0,by rw[bQ,aS b1];rfl,k1,by rw[bQ,aS b1];rfl,?_⟩
 have k2:=Upd.hnew No h1 [.int .u64 0,.int .u64 0,.int .u64 0,.int .u64 0] hP;have b2:=bK h1 [.int .u64 0,.int .u64 0,.int .u64 0,.int .u64 0] hP;simp only[cq h1];simp only[Bd];refine aX ?_;refine⟨.inr ⟨_,rfl,fun j hj=>by rw[bQ];exact gN b2 (by simp at hj⊢;omega)⟩,?_⟩
 refine aX ?_;rw[g9 _ _ 0 0 _ b2 (by simp)];have b3:=ia (o:=.cells (q4 (fC k0 8317987319222330741,fC k1 7237128888997146477,fC k0 7816392313619706465,fC k1 8387220255154660723)) hP (0,0)) b2;have k3:Upd No h _:=k1'.tr (k2.trans (M':=(· =h1.size)) (Upd.set (hnew h1 [.int .u64 0,.int .u64 0,.int .u64 0,.int .u64 0] hP) (.cells (q4 (fC k0 8317987319222330741,fC k1 7237128888997146477,fC k0 7816392313619706465,fC k1 8387220255154660723)) hP (0,0)) rfl) fun b hb=>.inr (Nat.le_of_eq hb.symm))
 refine LoopP.ghost (fun(g:Nat×Q4) (t':ByteArray) h'=>t'.size≤g.1∧h'[h1.size]? =some (.cells (q4 g.2) hP (0,0))∧Upd No h h'∧AM g.1 t' g.2=AM s.size s (fC k0 8317987319222330741,fC k1 7237128888997146477,fC k0 7816392313619706465,fC k1 8387220255154660723)) (fun g=>g.1) (s.size,_)
  ⟨ao _,b3,k3,rfl⟩ ?_
 rintro I ⟨n,q⟩ t' h' ⟨hn,hb,hu,hg⟩ hI;simp only at hn hb hg;have hsh:∀b,b=h1.size→No b∨h.size≤b:=fun b hb=>.inr (by omega)
 refine aA (fun hge=>?_) fun hlt=>?_
 ·have hge:8≤t'.size:=by omega
  cases n with
  |zero=>omega
  |succ n=>
   refine⟨by omega,IP (by rw[nn];show min 8 _-0≤8;omega) (IT hb fun h2 hb2 hu2=>⟨by omega,?_⟩)⟩
   have e8:((8:Int)).toNat=8:=rfl;rw[e8]at hb2⊢;refine hI (n,AI (yX (t'.extract 0 8)) q) _ _ ⟨by simp only[nn];omega,hb2,hu.trans hu2 hsh,?_⟩ (by simp only;omega);rw[←hg];simp only[AM,if_pos hge]
 ·have hlt:t'.size<8:=by omega
  have hg:(t',q)=AM s.size s (fC k0 8317987319222330741,fC k1 7237128888997146477,fC k0 7816392313619706465,fC k1 8387220255154660723):=by
   rw[←hg];cases n with
   |zero=>rfl
   |succ n=>simp only[AM,if_neg (show ¬8≤t'.size by omega)]
  have c:∀{h:ae} {s:Q4} {i:Nat},h[h1.size]? =some (.cells (q4 s) hP (0,0))→aE h ⟨h1.size,0+i,none⟩=(q4 s)[i]?:=fun hb=>by rw[aF];exact aS hb
  have w:∀{h:ae} {s:Q4} {i:Nat},h[h1.size]? =some (.cells (q4 s) hP (0,0))→i<4→Wr h ⟨h1.size,0+i,none⟩:=fun hb hi=>by rw[aF];exact gN hb hi
  have hsv:Mw k0 k1 s=Ob (AI (Lv (yX t') (Oi (s.size:Int) 56)) q):=by unfold Mw;rw[←hg];rfl
  rw[hsv]at hk;refine IP (by omega) ⟨by decide,IT (m:=Lv (yX t') (Oi (s.size:Int) 56)) hb fun h2 hb2 hu2=>?_⟩
  refine MR hb2 fun h4 hb4 hu4=>MS (K:=fun n=>K n h4) hb4 ?_
  exact hk h4 ((hu.trans hu2 hsh).trans hu4 hsh)
structure Hs where
 k0:Int
 k1:Int
 mask:Int
def dA(h:Hs)(s:ByteArray):Int:=L7 (Mw h.k0 h.k1 s) h.mask
theorem qd{x:Hs}{s:ByteArray}{h:ae}{K:Int→ae→Prop}(hk:∀h',Upd No h h'→K (dA x s) h'):HC PG dG [.agg #[.int .u64 x.k0,.int .u64 x.k1,.int .u64 x.mask],.string s] [.c (.int .u64)] K h:=by
 refine wV (x.k0,x.k1,x.mask) s ?_;unfold qs af;have k1':=Upd.hnew No h [.int .u64 x.k0,.int .u64 x.k1,.int .u64 x.mask] bX;have b1:=bK h [.int .u64 x.k0,.int .u64 x.k1,.int .u64 x.mask] bX;simp only[At,cq h];generalize hnew h [.int .u64 x.k0,.int .u64 x.k1,.int .u64 x.mask] bX=h1 at k1' b1;refine⟨x.k0,by rw[bQ,bQ,aS b1];rfl,x.k1,by rw[bQ,bQ,aS b1];rfl,x.mask,by rw[bQ,aS b1];rfl,?_⟩
 refine Nt fun h2 hu=>⟨by rw[bQ,aS (hu.get0 b1)];rfl,hk _ (k1'.tr hu)⟩
theorem Gh(x:Hs)(s:ByteArray):0≤dA x s∧dA x s<18446744073709551616:=G0 _
end Go.Proofs
namespace Go.Proofs
open Go Go.Lift
abbrev eG(x:ByteArray×ByteArray):List Value:= [.string x.1,.string x.2]
theorem jo(x:ByteArray×ByteArray):(eG x).length=2∧0<2:=⟨rfl,by omega⟩
theorem tU:∀xs:List (ByteArray×ByteArray),bS (xs.flatMap eG)=true
 | []=>rfl
 |x::xs=>by rw[aQ];exact ii rfl (tU xs)
theorem Ev{h:ae}{vb b o la ca lb cb:Nat}{cv cw:Array Value}{tv tb:TypeId}(hv:h[vb]? =some (.cells cv tv (0,0))) (hb:h[b]? =some (.cells cw tb (0,0))) (hn:vb≠b) (h0:cw.size≠0) {K:Bool→ae→Prop} (hk:K false h):
  HC PG gt [.slice (some ⟨vb,0,none⟩) la ca,.slice (some ⟨b,o,none⟩) lb cb] [.c .bool] K h:=by
 refine⟨fun w hw=>.inr ⟨.bool false,w,?_,Tame.refl w,false,rfl,hw▸hk⟩⟩
 subst hw;rw[pl];have:=Lib.run_overlaps_apart (P:=PG) w bO qI aj (by kernel_rfl) (bM PG aj) (oz (by kernel_rfl)) ⟨vb,0,none⟩ ⟨b,o,none⟩ la ca lb cb hn tv tb cv.size cw.size
  (by simp[World.shape?,hv]) (by simp[World.shape?,hb]) h0 (by simp[World.frozen?,hv]) (by simp[World.frozen?,hv])
 rw[show([Value.slice (some ⟨vb,0,none⟩) la ca,Value.slice (some ⟨b,o,none⟩) lb cb]:List Value).toArray= #[.slice (some ⟨vb,0,none⟩) la ca,.slice (some ⟨b,o,none⟩) lb cb]from rfl,this]
 rfl
set_option maxRecDepth 4000 in
theorem HS{M:Nat→Prop}{h:ae}{s:SliceV}{xs:List (ByteArray×ByteArray)}(hs:OwnS eG 2 aj M h s xs){k:Nat}(hkl:k≤xs.length)(hn:(xs.length+1)*32≤140737488355328){x:ByteArray×ByteArray}{vb:Nat}(hv:h[vb]? =some (.cells (eG x).toArray aj (0,0)))
  (hvM:¬M vb) (hM:∀b,h.size≤b→M b) {K:SliceV→ae→Prop} (hK:∀s' h',OwnS eG 2 aj M h' s' (xs.take k++x::xs.drop k)→Upd M h h'→K s' h'):
  HC PG cE [.slice s.a s.len s.cap,.int .i64 k,.slice (some ⟨vb,0,none⟩) 1 1] [.c .slice] K h:=by
 refine lg s k ⟨some ⟨vb,0,none⟩,1,1⟩ ?_;unfold gg;have hlen:=hs.len;have hcap:=hs.cap;have hxr:SRow h (some ⟨vb,0,none⟩) (1*2) (eG x):=⟨rfl,.inr ⟨_,rfl,mD hv fun i v hi=>by simpa using hi⟩⟩
 refine⟨by omega,ak.2 ?_⟩;refine CondP.intro (fun e=>?_) fun e=>?_
 ·have e:k=xs.length:=by have:=of_decide_eq_true (by simpa using e:decide ((k:Int)=(s.len:Int))=true);omega
  subst e;refine⟨_,hxr,AppP.own (ys:= [x]) hs rfl (by simp) rfl rfl (by omega) (by simp;omega) (hM _ (ao _)) fun s' h' ho hu=>hK s' h' ?_ hu⟩
  rw[cx,List.drop_length];exact ho
 have hlt:k<xs.length:=by
  rcases bR k xs.length with h|h
  ·exact h
  ·have:((k:Int)==(s.len:Int))=true:=by rw[beq_iff_eq];omega
   rw[this]at e;cases e
 rcases hs.blk with h0|⟨b,rest,ha,hb,hc,hr⟩
 ·omega
 have hA:((xs.take k).flatMap eG).length=k*2:=by rw[j8 jo,aB,bC hkl]
 have hB:((xs.drop k).flatMap eG).length=(xs.length-k)*2:=by rw[j8 jo,aG]
 have hbv:vb≠b:=fun e=>hvM (e▸hb)
 rw[vt (f:=eG) xs k]at hc;have hins:(xs.take k++x::xs.drop k).flatMap eG=(xs.take k).flatMap eG++(eG x++(xs.drop k).flatMap eG):=by rw[bL,aQ]
 have hone:=tU (xs.drop k);have hxl:(eG x).length=2:=rfl;have hx1:bS (eG x)=true:=rfl;generalize hAe:(xs.take k).flatMap eG=A at hA hc hins;generalize hBe:(xs.drop k).flatMap eG=B at hB hc hins hone;generalize eG x=X at hxr hxl hv hins hx1;rw[ha];have w1:IntKind.wrap .i64 ((xs.length:Int)+((1:Nat):Int))=((xs.length+1:Nat):Int):=by rw[fl (by omega)];omega
 have w2:IntKind.wrap .i64 ((k:Int)+((1:Nat):Int))=((k+1:Nat):Int):=by rw[fl (by omega)];omega
 have w3:IntKind.wrap .i64 (((xs.length+1:Nat):Int)-(k:Int))=((xs.length+1-k:Nat):Int):=by rw[fl (by omega)];omega
 simp only[w1,w2,w3,aR,hlen];refine aA (fun hgt=>?_) fun hle=>?_
 ·
  have hcl:s.cap=xs.length:=by omega
  refine Join.plain ⟨by omega,⟨by omega,by omega,by omega,by omega⟩,fun hin=>?_,fun hout=>?_⟩
  ·omega
  ·refine⟨A,_,?_,rfl,by omega,Go.growslice_fits hout (by omega),fun nc hnc=>?_⟩
   ·rw[sub_zero]
    exact jO hc (by rw[hA];omega) (by simp only[cp,dy];rw[al,←hA,eJ (ao _),cx])
   ·simp only[aR]at hnc⊢
    have kn:=Upd.hnew No h (A++dd (xs.length+1-k) [.string (⟨#[]⟩:ByteArray),.string (⟨#[]⟩:ByteArray)]++dd (nc-(k-0+(xs.length+1-k))) [.string (⟨#[]⟩:ByteArray),.string (⟨#[]⟩:ByteArray)]) aj;have bn:=bK h (A++dd (xs.length+1-k) [.string (⟨#[]⟩:ByteArray),.string (⟨#[]⟩:ByteArray)]++dd (nc-(k-0+(xs.length+1-k))) [.string (⟨#[]⟩:ByteArray),.string (⟨#[]⟩:ByteArray)]) aj
    have hz1:(dd (xs.length+1-k) [.string (⟨#[]⟩:ByteArray),.string (⟨#[]⟩:ByteArray)]).length=(xs.length+1-k)*2:=ko _ _;have hz2:(dd (nc-(k-0+(xs.length+1-k))) [.string (⟨#[]⟩:ByteArray),.string (⟨#[]⟩:ByteArray)]).length=(nc-(k-0+(xs.length+1-k)))*2:=ko _ _;have hncl:k-0+(xs.length+1-k)=xs.length+1:=by omega
    rw[cq];have hsz:h.size≠vb:=fun e=>by have:=bD hv;omega
    have hszb:h.size≠b:=fun e=>by have:=bD hc;omega
    have hbc:=kn.get0 hc;have hvc:=kn.get0 hv;generalize hnew h _ aj=h9 at kn bn hbc hvc;rw[hncl]at hnc hz2⊢;have m1:dz 1 (xs.length+1-k)=1:=bC (by omega);have m2:dz (xs.length-k) (xs.length+1-(k+1))=xs.length-k:=bC (by omega);rw[m1];have xr9:SRow h9 (some ⟨vb,0,none⟩) (1*2) X:=jO hvc (by rw[hxl]) (by rw[cp,aU];rw[hxl];omega)
    refine⟨by omega,?_⟩;rw[iz (by omega)];refine jF xr9 hx1 bn (by simp only[ac,hA,hz1];omega) fun h11 hb11 hu11=>⟨by omega,?_⟩
    simp only[Bd];rw[iz (by omega),iz (by omega),m2];refine⟨by omega,?_⟩;have hbc11:=hu11.get hbc (fun e=>hszb e.symm)
    have br:SRow h11 (some ⟨b,0+k*2,none⟩) ((xs.length-k)*2) B:=jO hbc11 hB (by
     rw[aF,al,←hA,eW,←hB,fy])
    refine jF br hone hb11 ?_ fun h16 hb16 hu16=>?_
    ·simp only[ac,aB,aG,hA,hz1,hxl];omega
    ·refine hK _ _ ⟨by simp;omega,jo,hnc,.inr ⟨h.size,dd (nc-(xs.length+1)) [.string (⟨#[]⟩:ByteArray),.string (⟨#[]⟩:ByteArray)],rfl,hM _ (ao _),?_,by rw[ko];rfl⟩⟩ ((kn.wide.trans (M':=(· =h.size)) hu11 fun b hb=>.inl (hb▸hM _ (ao _))).trans (M':=(· =h.size)) hu16 fun b hb=>.inl (hb▸hM _ (ao _)))
     rw[hb16,hins];have:=ED (A:=A) (X:=X) (B:=B) (Z1:=dd (xs.length+1-k) [.string (⟨#[]⟩:ByteArray),.string (⟨#[]⟩:ByteArray)]) (Z2:=dd (nc-(xs.length+1)) [.string (⟨#[]⟩:ByteArray),.string (⟨#[]⟩:ByteArray)]) (r:=(xs.length-k)*2) hA hxl (by rw[hz1,←fH];congr 1;omega);rw[hncl,←this];simp only[aF,fH,oJ]
 ·have hcl:xs.length+1≤s.cap:=by omega
  refine⟨by omega,?_⟩;simp only[Bd,dy];rw[sub_zero,iz (show s.cap≠k+1 by omega),iz (show s.cap≠k by omega)]
  refine⟨by omega,?_⟩;have hrl:2≤rest.length:=by rw[hr];exact nh _ (by omega)
  refine Ev hv hc hbv (by rw[dH,ac];omega) ?_;refine ax.2 ⟨by omega,by omega,?_⟩
  have m1:dz 1 (xs.length+1-k)=1:=bC (by omega);have m2:dz (xs.length+1-k) (xs.length+1-(k+1))=xs.length-k:=by
   rw[show xs.length+1-(k+1)=xs.length-k by omega];exact nM (by omega)
  rw[m2];have br:SRow h (some ⟨b,0+k*2,none⟩) ((xs.length-k)*2) B:=jO hc hB (by
   rw[aF,al,←hA,eW,←hB,fy])
  refine jF br hone hc (by simp only[ac,hA,hB];omega) fun h1 hb1 hu1=>⟨by omega,?_⟩
  rw[m1];have xr1:SRow h1 (some ⟨vb,0,none⟩) (1*2) X:=jO (hu1.get hv hbv) (by rw[hxl]) (by rw[cp,aU];rw[hxl];omega);refine jF xr1 hx1 hb1 (by simp only[ac,aB,aG,hA,hB];omega) fun h2 hb2 hu2=>?_
  refine hK _ _ ⟨by simp;omega,jo,hcl,.inr ⟨b,rest.drop 2,rfl,hb,?_,?_⟩⟩ ((hu1.mono fun _ e=>.inl (e▸hb)).tr (hu2.mono fun _ e=>.inl (e▸hb)))
  ·rw[hb2,hins]
   have:=HU (A:=A) (X:=X) (B:=B) (R:=rest) (q:=2) (r:=(xs.length-k)*2) hA hB hrl;rw[←this];simp only[aF,fH,oJ]
  ·rw[aG,hr]
   simp only;rw[hlen];omega
abbrev pf(x:Option Addr):List Value:= [.pointer x]
theorem pu(x:Option Addr):(pf x).length=1∧0<1:=⟨rfl,by omega⟩
theorem Ag:∀xs:List (Option Addr),bS (xs.flatMap pf)=true
 | []=>rfl
 |x::xs=>by rw[aQ];exact ii rfl (Ag xs)
theorem Ew{h:ae}{vb b o la ca lb cb:Nat}{cv cw:Array Value}{tv tb:TypeId}(hv:h[vb]? =some (.cells cv tv (0,0))) (hb:h[b]? =some (.cells cw tb (0,0))) (hn:vb≠b) (h0:cw.size≠0) {K:Bool→ae→Prop} (hk:K false h):
  HC PG f8 [.slice (some ⟨vb,0,none⟩) la ca,.slice (some ⟨b,o,none⟩) lb cb] [.c .bool] K h:=by
 refine⟨fun w hw=>.inr ⟨.bool false,w,?_,Tame.refl w,false,rfl,hw▸hk⟩⟩
 subst hw;rw[oE];have:=Lib.run_overlaps_apart (P:=PG) w oM qI bw (by kernel_rfl) (bM PG bw) (oz (by kernel_rfl)) ⟨vb,0,none⟩ ⟨b,o,none⟩ la ca lb cb hn tv tb cv.size cw.size
  (by simp[World.shape?,hv]) (by simp[World.shape?,hb]) h0 (by simp[World.frozen?,hv]) (by simp[World.frozen?,hv])
 rw[show([Value.slice (some ⟨vb,0,none⟩) la ca,Value.slice (some ⟨b,o,none⟩) lb cb]:List Value).toArray= #[.slice (some ⟨vb,0,none⟩) la ca,.slice (some ⟨b,o,none⟩) lb cb]from rfl,this]
 rfl
set_option maxRecDepth 4000 in
theorem HT{M:Nat→Prop}{h:ae}{s:SliceV}{xs:List (Option Addr)}(hs:OwnS pf 1 bw M h s xs){k:Nat}(hkl:k≤xs.length)(hn:(xs.length+1)*8≤140737488355328){x:Option Addr}{vb:Nat}(hv:h[vb]? =some (.cells (pf x).toArray bw (0,0)))
  (hvM:¬M vb) (hM:∀b,h.size≤b→M b) {K:SliceV→ae→Prop} (hK:∀s' h',OwnS pf 1 bw M h' s' (xs.take k++x::xs.drop k)→Upd M h h'→K s' h'):
  HC PG cj [.slice s.a s.len s.cap,.int .i64 k,.slice (some ⟨vb,0,none⟩) 1 1] [.c .slice] K h:=by
 refine jH s k ⟨some ⟨vb,0,none⟩,1,1⟩ ?_;unfold fE;have hlen:=hs.len;have hcap:=hs.cap;have hxr:SRow h (some ⟨vb,0,none⟩) (1*1) (pf x):=⟨rfl,.inr ⟨_,rfl,mD hv fun i v hi=>by simpa using hi⟩⟩
 refine⟨by omega,ak.2 ?_⟩;refine CondP.intro (fun e=>?_) fun e=>?_
 ·have e:k=xs.length:=by have:=of_decide_eq_true (by simpa using e:decide ((k:Int)=(s.len:Int))=true);omega
  subst e;refine⟨_,hxr,AppP.own (ys:= [x]) hs rfl (by simp) rfl rfl (by omega) (by simp;omega) (hM _ (ao _)) fun s' h' ho hu=>hK s' h' ?_ hu⟩
  rw[cx,List.drop_length];exact ho
 have hlt:k<xs.length:=by
  rcases bR k xs.length with h|h
  ·exact h
  ·have:((k:Int)==(s.len:Int))=true:=by rw[beq_iff_eq];omega
   rw[this]at e;cases e
 rcases hs.blk with h0|⟨b,rest,ha,hb,hc,hr⟩
 ·omega
 have hA:((xs.take k).flatMap pf).length=k*1:=by rw[j8 pu,aB,bC hkl]
 have hB:((xs.drop k).flatMap pf).length=(xs.length-k)*1:=by rw[j8 pu,aG]
 have hbv:vb≠b:=fun e=>hvM (e▸hb)
 rw[vt (f:=pf) xs k]at hc;have hins:(xs.take k++x::xs.drop k).flatMap pf=(xs.take k).flatMap pf++(pf x++(xs.drop k).flatMap pf):=by rw[bL,aQ]
 have hone:=Ag (xs.drop k);have hxl:(pf x).length=1:=rfl;have hx1:bS (pf x)=true:=rfl;generalize hAe:(xs.take k).flatMap pf=A at hA hc hins;generalize hBe:(xs.drop k).flatMap pf=B at hB hc hins hone;generalize pf x=X at hxr hxl hv hins hx1;rw[ha];have w1:IntKind.wrap .i64 ((xs.length:Int)+((1:Nat):Int))=((xs.length+1:Nat):Int):=by rw[fl (by omega)];omega
 have w2:IntKind.wrap .i64 ((k:Int)+((1:Nat):Int))=((k+1:Nat):Int):=by rw[fl (by omega)];omega
 have w3:IntKind.wrap .i64 (((xs.length+1:Nat):Int)-(k:Int))=((xs.length+1-k:Nat):Int):=by rw[fl (by omega)];omega
 simp only[w1,w2,w3,aR,hlen];refine aA (fun hgt=>?_) fun hle=>?_
 ·
  have hcl:s.cap=xs.length:=by omega
  refine Join.plain ⟨by omega,⟨by omega,by omega,by omega,by omega⟩,fun hin=>?_,fun hout=>?_⟩
  ·omega
  ·refine⟨A,_,?_,rfl,by omega,Go.growslice_fits hout (by omega),fun nc hnc=>?_⟩
   ·rw[sub_zero]
    exact jO hc (by rw[hA];omega) (by simp only[cp,dy];rw[al,←hA,eJ (ao _),cx])
   ·simp only[aR]at hnc⊢
    have kn:=Upd.hnew No h (A++dd (xs.length+1-k) [.pointer none]++dd (nc-(k-0+(xs.length+1-k))) [.pointer none]) bw;have bn:=bK h (A++dd (xs.length+1-k) [.pointer none]++dd (nc-(k-0+(xs.length+1-k))) [.pointer none]) bw;have hz1:(dd (xs.length+1-k) [.pointer none]).length=(xs.length+1-k)*1:=ko _ _;have hz2:(dd (nc-(k-0+(xs.length+1-k))) [.pointer none]).length=(nc-(k-0+(xs.length+1-k)))*1:=ko _ _
    have hncl:k-0+(xs.length+1-k)=xs.length+1:=by omega
    rw[cq];have hsz:h.size≠vb:=fun e=>by have:=bD hv;omega
    have hszb:h.size≠b:=fun e=>by have:=bD hc;omega
    have hbc:=kn.get0 hc;have hvc:=kn.get0 hv;generalize hnew h _ bw=h9 at kn bn hbc hvc;rw[hncl]at hnc hz2⊢;have m1:dz 1 (xs.length+1-k)=1:=bC (by omega);have m2:dz (xs.length-k) (xs.length+1-(k+1))=xs.length-k:=bC (by omega);rw[m1];have xr9:SRow h9 (some ⟨vb,0,none⟩) (1*1) X:=jO hvc (by rw[hxl]) (by rw[cp,aU];rw[hxl];omega)
    refine⟨by omega,?_⟩;rw[iz (by omega)];refine jF xr9 hx1 bn (by simp only[ac,hA,hz1];omega) fun h11 hb11 hu11=>⟨by omega,?_⟩
    simp only[Bd];rw[iz (by omega),iz (by omega),m2];refine⟨by omega,?_⟩;have hbc11:=hu11.get hbc (fun e=>hszb e.symm)
    have br:SRow h11 (some ⟨b,0+k*1,none⟩) ((xs.length-k)*1) B:=jO hbc11 hB (by
     rw[aF,al,←hA,eW,←hB,fy])
    refine jF br hone hb11 ?_ fun h16 hb16 hu16=>?_
    ·simp only[ac,aB,aG,hA,hz1,hxl];omega
    ·refine hK _ _ ⟨by simp;omega,pu,hnc,.inr ⟨h.size,dd (nc-(xs.length+1)) [.pointer none],rfl,hM _ (ao _),?_,by rw[ko];rfl⟩⟩ ((kn.wide.trans (M':=(· =h.size)) hu11 fun b hb=>.inl (hb▸hM _ (ao _))).trans (M':=(· =h.size)) hu16 fun b hb=>.inl (hb▸hM _ (ao _)))
     rw[hb16,hins];have:=ED (A:=A) (X:=X) (B:=B) (Z1:=dd (xs.length+1-k) [.pointer none]) (Z2:=dd (nc-(xs.length+1)) [.pointer none]) (r:=(xs.length-k)*1) hA hxl (by rw[hz1,←fH];congr 1;omega);rw[hncl,←this];simp only[aF,fH,oJ]
 ·have hcl:xs.length+1≤s.cap:=by omega
  refine⟨by omega,?_⟩;simp only[Bd,dy];rw[sub_zero,iz (show s.cap≠k+1 by omega),iz (show s.cap≠k by omega)]
  refine⟨by omega,?_⟩;have hrl:1≤rest.length:=by rw[hr];exact nh _ (by omega)
  refine Ew hv hc hbv (by rw[dH,ac];omega) ?_;refine ax.2 ⟨by omega,by omega,?_⟩
  have m1:dz 1 (xs.length+1-k)=1:=bC (by omega);have m2:dz (xs.length+1-k) (xs.length+1-(k+1))=xs.length-k:=by
   rw[show xs.length+1-(k+1)=xs.length-k by omega];exact nM (by omega)
  rw[m2];have br:SRow h (some ⟨b,0+k*1,none⟩) ((xs.length-k)*1) B:=jO hc hB (by
   rw[aF,al,←hA,eW,←hB,fy])
  refine jF br hone hc (by simp only[ac,hA,hB];omega) fun h1 hb1 hu1=>⟨by omega,?_⟩
  rw[m1];have xr1:SRow h1 (some ⟨vb,0,none⟩) (1*1) X:=jO (hu1.get hv hbv) (by rw[hxl]) (by rw[cp,aU];rw[hxl];omega);refine jF xr1 hx1 hb1 (by simp only[ac,aB,aG,hA,hB];omega) fun h2 hb2 hu2=>?_
  refine hK _ _ ⟨by simp;omega,pu,hcl,.inr ⟨b,rest.drop 1,rfl,hb,?_,?_⟩⟩ ((hu1.mono fun _ e=>.inl (e▸hb)).tr (hu2.mono fun _ e=>.inl (e▸hb)))
  ·rw[hb2,hins]
   have:=HU (A:=A) (X:=X) (B:=B) (R:=rest) (q:=1) (r:=(xs.length-k)*1) hA hB hrl;rw[←this];simp only[aF,fH,oJ]
  ·rw[aG,hr]
   simp only;rw[hlen];omega
abbrev nS(x:Option Addr):List Value:= [.pointer x]
theorem kw(x:Option Addr):(nS x).length=1∧0<1:=⟨rfl,by omega⟩
theorem Af:∀xs:List (Option Addr),bS (xs.flatMap nS)=true
 | []=>rfl
 |x::xs=>by rw[aQ];exact ii rfl (Af xs)
theorem Eu{h:ae}{vb b o la ca lb cb:Nat}{cv cw:Array Value}{tv tb:TypeId}(hv:h[vb]? =some (.cells cv tv (0,0))) (hb:h[b]? =some (.cells cw tb (0,0))) (hn:vb≠b) (h0:cw.size≠0) {K:Bool→ae→Prop} (hk:K false h):
  HC PG fO [.slice (some ⟨vb,0,none⟩) la ca,.slice (some ⟨b,o,none⟩) lb cb] [.c .bool] K h:=by
 refine⟨fun w hw=>.inr ⟨.bool false,w,?_,Tame.refl w,false,rfl,hw▸hk⟩⟩
 subst hw;rw[nJ];have:=Lib.run_overlaps_apart (P:=PG) w nx qI aK (by kernel_rfl) (bM PG aK) (oz (by kernel_rfl)) ⟨vb,0,none⟩ ⟨b,o,none⟩ la ca lb cb hn tv tb cv.size cw.size
  (by simp[World.shape?,hv]) (by simp[World.shape?,hb]) h0 (by simp[World.frozen?,hv]) (by simp[World.frozen?,hv])
 rw[show([Value.slice (some ⟨vb,0,none⟩) la ca,Value.slice (some ⟨b,o,none⟩) lb cb]:List Value).toArray= #[.slice (some ⟨vb,0,none⟩) la ca,.slice (some ⟨b,o,none⟩) lb cb]from rfl,this]
 rfl
set_option maxRecDepth 4000 in
theorem HR{M:Nat→Prop}{h:ae}{s:SliceV}{xs:List (Option Addr)}(hs:OwnS nS 1 aK M h s xs){k:Nat}(hkl:k≤xs.length)(hn:(xs.length+1)*8≤140737488355328){x:Option Addr}{vb:Nat}(hv:h[vb]? =some (.cells (nS x).toArray aK (0,0)))
  (hvM:¬M vb) (hM:∀b,h.size≤b→M b) {K:SliceV→ae→Prop} (hK:∀s' h',OwnS nS 1 aK M h' s' (xs.take k++x::xs.drop k)→Upd M h h'→K s' h'):
  HC PG dJ [.slice s.a s.len s.cap,.int .i64 k,.slice (some ⟨vb,0,none⟩) 1 1] [.c .slice] K h:=by
 refine ja s k ⟨some ⟨vb,0,none⟩,1,1⟩ ?_;unfold fj;have hlen:=hs.len;have hcap:=hs.cap;have hxr:SRow h (some ⟨vb,0,none⟩) (1*1) (nS x):=⟨rfl,.inr ⟨_,rfl,mD hv fun i v hi=>by simpa using hi⟩⟩
 refine⟨by omega,ak.2 ?_⟩;refine CondP.intro (fun e=>?_) fun e=>?_
 ·have e:k=xs.length:=by have:=of_decide_eq_true (by simpa using e:decide ((k:Int)=(s.len:Int))=true);omega
  subst e;refine⟨_,hxr,AppP.own (ys:= [x]) hs rfl (by simp) rfl rfl (by omega) (by simp;omega) (hM _ (ao _)) fun s' h' ho hu=>hK s' h' ?_ hu⟩
  rw[cx,List.drop_length];exact ho
 have hlt:k<xs.length:=by
  rcases bR k xs.length with h|h
  ·exact h
  ·have:((k:Int)==(s.len:Int))=true:=by rw[beq_iff_eq];omega
   rw[this]at e;cases e
 rcases hs.blk with h0|⟨b,rest,ha,hb,hc,hr⟩
 ·omega
 have hA:((xs.take k).flatMap nS).length=k*1:=by rw[j8 kw,aB,bC hkl]
 have hB:((xs.drop k).flatMap nS).length=(xs.length-k)*1:=by rw[j8 kw,aG]
 have hbv:vb≠b:=fun e=>hvM (e▸hb)
 rw[vt (f:=nS) xs k]at hc;have hins:(xs.take k++x::xs.drop k).flatMap nS=(xs.take k).flatMap nS++(nS x++(xs.drop k).flatMap nS):=by rw[bL,aQ]
 have hone:=Af (xs.drop k);have hxl:(nS x).length=1:=rfl;have hx1:bS (nS x)=true:=rfl;generalize hAe:(xs.take k).flatMap nS=A at hA hc hins;generalize hBe:(xs.drop k).flatMap nS=B at hB hc hins hone;generalize nS x=X at hxr hxl hv hins hx1;rw[ha];have w1:IntKind.wrap .i64 ((xs.length:Int)+((1:Nat):Int))=((xs.length+1:Nat):Int):=by rw[fl (by omega)];omega
 have w2:IntKind.wrap .i64 ((k:Int)+((1:Nat):Int))=((k+1:Nat):Int):=by rw[fl (by omega)];omega
 have w3:IntKind.wrap .i64 (((xs.length+1:Nat):Int)-(k:Int))=((xs.length+1-k:Nat):Int):=by rw[fl (by omega)];omega
 simp only[w1,w2,w3,aR,hlen];refine aA (fun hgt=>?_) fun hle=>?_
 ·
  have hcl:s.cap=xs.length:=by omega
  refine Join.plain ⟨by omega,⟨by omega,by omega,by omega,by omega⟩,fun hin=>?_,fun hout=>?_⟩
  ·omega
  ·refine⟨A,_,?_,rfl,by omega,Go.growslice_fits hout (by omega),fun nc hnc=>?_⟩
   ·rw[sub_zero]
    exact jO hc (by rw[hA];omega) (by simp only[cp,dy];rw[al,←hA,eJ (ao _),cx])
   ·simp only[aR]at hnc⊢
    have kn:=Upd.hnew No h (A++dd (xs.length+1-k) [.pointer none]++dd (nc-(k-0+(xs.length+1-k))) [.pointer none]) aK;have bn:=bK h (A++dd (xs.length+1-k) [.pointer none]++dd (nc-(k-0+(xs.length+1-k))) [.pointer none]) aK;have hz1:(dd (xs.length+1-k) [.pointer none]).length=(xs.length+1-k)*1:=ko _ _;have hz2:(dd (nc-(k-0+(xs.length+1-k))) [.pointer none]).length=(nc-(k-0+(xs.length+1-k)))*1:=ko _ _
    have hncl:k-0+(xs.length+1-k)=xs.length+1:=by omega
    rw[cq];have hsz:h.size≠vb:=fun e=>by have:=bD hv;omega
    have hszb:h.size≠b:=fun e=>by have:=bD hc;omega
    have hbc:=kn.get0 hc;have hvc:=kn.get0 hv;generalize hnew h _ aK=h9 at kn bn hbc hvc;rw[hncl]at hnc hz2⊢;have m1:dz 1 (xs.length+1-k)=1:=bC (by omega);have m2:dz (xs.length-k) (xs.length+1-(k+1))=xs.length-k:=bC (by omega);rw[m1];have xr9:SRow h9 (some ⟨vb,0,none⟩) (1*1) X:=jO hvc (by rw[hxl]) (by rw[cp,aU];rw[hxl];omega)
    refine⟨by omega,?_⟩;rw[iz (by omega)];refine jF xr9 hx1 bn (by simp only[ac,hA,hz1];omega) fun h11 hb11 hu11=>⟨by omega,?_⟩
    simp only[Bd];rw[iz (by omega),iz (by omega),m2];refine⟨by omega,?_⟩;have hbc11:=hu11.get hbc (fun e=>hszb e.symm)
    have br:SRow h11 (some ⟨b,0+k*1,none⟩) ((xs.length-k)*1) B:=jO hbc11 hB (by
     rw[aF,al,←hA,eW,←hB,fy])
    refine jF br hone hb11 ?_ fun h16 hb16 hu16=>?_
    ·simp only[ac,aB,aG,hA,hz1,hxl];omega
    ·refine hK _ _ ⟨by simp;omega,kw,hnc,.inr ⟨h.size,dd (nc-(xs.length+1)) [.pointer none],rfl,hM _ (ao _),?_,by rw[ko];rfl⟩⟩ ((kn.wide.trans (M':=(· =h.size)) hu11 fun b hb=>.inl (hb▸hM _ (ao _))).trans (M':=(· =h.size)) hu16 fun b hb=>.inl (hb▸hM _ (ao _)))
     rw[hb16,hins];have:=ED (A:=A) (X:=X) (B:=B) (Z1:=dd (xs.length+1-k) [.pointer none]) (Z2:=dd (nc-(xs.length+1)) [.pointer none]) (r:=(xs.length-k)*1) hA hxl (by rw[hz1,←fH];congr 1;omega);rw[hncl,←this];simp only[aF,fH,oJ]
 ·have hcl:xs.length+1≤s.cap:=by omega
  refine⟨by omega,?_⟩;simp only[Bd,dy];rw[sub_zero,iz (show s.cap≠k+1 by omega),iz (show s.cap≠k by omega)]
  refine⟨by omega,?_⟩;have hrl:1≤rest.length:=by rw[hr];exact nh _ (by omega)
  refine Eu hv hc hbv (by rw[dH,ac];omega) ?_;refine ax.2 ⟨by omega,by omega,?_⟩
  have m1:dz 1 (xs.length+1-k)=1:=bC (by omega);have m2:dz (xs.length+1-k) (xs.length+1-(k+1))=xs.length-k:=by
   rw[show xs.length+1-(k+1)=xs.length-k by omega];exact nM (by omega)
  rw[m2];have br:SRow h (some ⟨b,0+k*1,none⟩) ((xs.length-k)*1) B:=jO hc hB (by
   rw[aF,al,←hA,eW,←hB,fy])
  refine jF br hone hc (by simp only[ac,hA,hB];omega) fun h1 hb1 hu1=>⟨by omega,?_⟩
  rw[m1];have xr1:SRow h1 (some ⟨vb,0,none⟩) (1*1) X:=jO (hu1.get hv hbv) (by rw[hxl]) (by rw[cp,aU];rw[hxl];omega);refine jF xr1 hx1 hb1 (by simp only[ac,aB,aG,hA,hB];omega) fun h2 hb2 hu2=>?_
  refine hK _ _ ⟨by simp;omega,kw,hcl,.inr ⟨b,rest.drop 1,rfl,hb,?_,?_⟩⟩ ((hu1.mono fun _ e=>.inl (e▸hb)).tr (hu2.mono fun _ e=>.inl (e▸hb)))
  ·rw[hb2,hins]
   have:=HU (A:=A) (X:=X) (B:=B) (R:=rest) (q:=1) (r:=(xs.length-k)*1) hA hB hrl;rw[←this];simp only[aF,fH,oJ]
  ·rw[aG,hr]
   simp only;rw[hlen];omega
end Go.Proofs
