/- A part of the proof that the named laws of this program answer true, whatever the input. -/
import Derived.Test.YtncppacbfagpgaaGreatDoorTreeF0
import Derived.Test.YtncppacbfagpgaaGreatDoorTreeF1
import Derived.Test.YtncppacbfagpgaaGreatDoorTreeF2
import Derived.Test.YtncppacbfagpgaaGreatDoorLaw0
import Derived.Test.YtncppacbfagpgaaGreatDoorLift3
import Derived.Lib.Overlaps
open BitVec renaming ofInt→ao
open ByteArray renaming size_extract→fN
open Int renaming toNat_natCast→aV
open List renaming mem_cons_self→av,mem_cons_of_mem→aC,mem_cons→aB,pairwise_cons→aD,append_eq_nil_iff→lX,mem_singleton→aF,append_nil→aJ,append_assoc→au,append_cancel_left→gB,length→fg,length_append→ac,length_eq_zero_iff→aA,getElem_of_mem→ce,length_take→aR,length_drop→aY,take_append_drop→aK,pairwise_append→cl,getElem_mem→bw,pairwise_iff_getElem→cA,take_succ_cons→dW,drop_succ_cons→gZ,flatMap_cons→aN,take_length→cd,drop_length→qN,flatMap_append→bH,drop_zero→db,take_append_of_le_length→fW,take_of_length_le→bD,drop_left→gh,take_left→gP,size_toArray→dy,drop_eq_getElem_cons→fQ,drop_left'→dz,take_left'→eC,drop_drop→eK,drop_append_of_le_length→iG
open Nat renaming lt_or_ge→bT,zero_add→aM,sub_self→gj,le_refl→aq,min_eq_left→bN,sub_zero→fJ,min→eB,add_one_mul→g9,one_mul→rC,le_mul_of_pos_left→qc,min_eq_right→jR,zero_mul→w7
open Option renaming isSome_iff_exists→iA,some→bK
open UInt8 renaming toNat_inj→md
namespace Go.Proofs
inductive Fo where
 |nil:Fo
 |cons (lab:List UInt8) (val:Option ByteArray) (kids rest:Fo):Fo
abbrev Bn:=List UInt8×Option ByteArray×Fo
def Fo.toL:Fo→List Bn
 | .nil=> []
 | .cons lab w kids rest=>(lab,w,kids)::rest.toL
theorem Fo.toL_cons(lab:List UInt8)(w:Option ByteArray)(kids rest:Fo):(Fo.cons lab w kids rest).toL=(lab,w,kids)::rest.toL:=rfl
def Fo.ofL:List Bn→Fo
 | []=>.nil
 |(lab,w,kids)::l=>.cons lab w kids (Fo.ofL l)
theorem Fo.to_of:∀l:List Bn,(Fo.ofL l).toL=l
 | []=>rfl
 |(_,_,_)::l=>by show _::(Fo.ofL l).toL=_;rw[Fo.to_of l]
theorem Fo.of_to:∀F:Fo,Fo.ofL F.toL=F
 | .nil=>rfl
 | .cons lab w kids rest=>by show Fo.cons lab w kids (Fo.ofL rest.toL)=_;rw[Fo.of_to rest]
def vO:Fo→List UInt8→ByteArray→Prop
 | .nil,_,_=>False
 | .cons lab w kids rest,k,v=>(∃r,k=lab++r∧((r= []∧w=some v)∨vO kids r v))∨vO rest k v
def xz(w:Option ByteArray)(F:Fo)(k:List UInt8)(v:ByteArray):Prop:=(k= []∧w=some v)∨vO F k v
def AI(n:Bn)(k:List UInt8)(v:ByteArray):Prop:=∃r,k=n.1++r∧xz n.2.1 n.2.2 r v
theorem ju:∀{F:Fo} {k:List UInt8} {v:ByteArray},vO F k v↔∃n∈F.toL,AI n k v
 | .nil,_,_=>by simp[vO,Fo.toL]
 | .cons lab w kids rest,k,v=>by
  rw[Fo.toL_cons];unfold vO;rw[ju (F:=rest)];constructor
  ·rintro(h|⟨n,hn,h⟩)
   ·exact⟨_,av ..,h⟩
   ·exact⟨n,aC _ hn,h⟩
  ·rintro⟨n,hn,h⟩
   rcases aB.1 hn with rfl|hn
   ·exact .inl h
   ·exact .inr ⟨n,hn,h⟩
def hd(k:List UInt8):Nat:=(k.headD 0).toNat
theorem qB{a b:List UInt8}(h:a≠[]):hd (a++b)=hd a:=by
 cases a with
 |nil=>exact absurd rfl h
 |cons x a=>rfl
theorem Xc(a:List UInt8):hd a<256:=UInt8.toNat_lt _
def gJ:Fo→Prop
 | .nil=>True
 | .cons lab w kids rest=>lab≠[]∧(w.isSome∨2≤kids.toL.length)∧gJ kids∧(∀n∈rest.toL,hd lab<hd n.1)∧gJ rest
def S4(n:Bn):Prop:=n.1≠[]∧(n.2.1.isSome∨2≤n.2.2.toL.length)∧gJ n.2.2
theorem gc:∀{F:Fo},gJ F↔F.toL.Pairwise (fun m n=>hd m.1<hd n.1)∧∀n∈F.toL,S4 n
 | .nil=>by simp[gJ,Fo.toL]
 | .cons lab w kids rest=>by
  rw[Fo.toL_cons,aD];show(lab≠[]∧(w.isSome∨2≤kids.toL.length)∧gJ kids∧(∀n∈rest.toL,hd lab<hd n.1)∧gJ rest)↔_
  rw[gc (F:=rest)];constructor
  ·rintro⟨h1,h2,h3,h4,h5,h6⟩
   refine⟨⟨h4,h5⟩,fun n hn=>?_⟩
   rcases aB.1 hn with rfl|hn
   ·exact⟨h1,h2,h3⟩
   ·exact h6 n hn
  ·rintro⟨⟨h4,h5⟩,h6⟩
   have:=h6 _ (av ..);exact⟨this.1,this.2.1,this.2.2,h4,h5,fun n hn=>h6 n (aC _ hn)⟩
theorem pI:∀{F:Fo},gJ F→∀n∈F.toL,∃r v,xz n.2.1 n.2.2 r v
 | .nil,_,n,hn=>by simp[Fo.toL]at hn
 | .cons lab w kids rest,h,n,hn=>by
  rcases aB.1 hn with rfl|hn
  ·rcases h.2.1 with hw|hk
   ·obtain⟨v,hv⟩:=iA.1 hw
    exact⟨[],v,.inl ⟨rfl,hv⟩⟩
   ·have ih:=pI h.2.2.1
    have⟨m,hm⟩:∃m,m∈kids.toL:=by
     cases hl:kids.toL with
     |nil=>rw[hl]at hk;simp at hk
     |cons m l=>exact⟨m,av ..⟩
    obtain⟨r,v,hr⟩:=ih m hm;exact⟨m.1++r,v,.inr (ju.2 ⟨m,hm,r,rfl,hr⟩)⟩
  ·exact pI h.2.2.2.2 n hn
theorem qA{F:Fo}(h:gJ F){k:List UInt8}{v:ByteArray}(hi:vO F k v):k≠[]:=by
 obtain⟨n,hn,r,rfl,_⟩:=ju.1 hi;have:=((gc.1 h).2 n hn).1;intro e;exact this (lX.1 e).1
theorem tc{F:Fo}(h:gJ F){k:List UInt8}{v:ByteArray}(hi:vO F k v):∃n∈F.toL,hd n.1=hd k∧AI n k v:=by
 obtain⟨n,hn,r,e,hr⟩:=ju.1 hi;exact⟨n,hn,by rw[e,qB ((gc.1 h).2 n hn).1],r,e,hr⟩
theorem Fl{F:Fo}(h:gJ F){m n:Bn}(hm:m∈F.toL)(hn:n∈F.toL)(e:hd m.1=hd n.1):m=n:=by
 have hp:=(gc.1 h).1;revert hm hn;generalize F.toL=l at*;clear h;induction l with
 |nil=>intro hm;simp at hm
 |cons a l ih=>
  have hp:=aD.1 hp;intro hm hn;rcases aB.1 hm with e1|hm1
  ·rcases aB.1 hn with e2|hn1
   ·rw[e1,e2]
   ·have:=hp.1 n hn1;rw[←e1]at this;omega
  ·rcases aB.1 hn with e2|hn1
   ·have:=hp.1 m hm1;rw[←e2]at this;omega
   ·exact ih hp.2 hm1 hn1
def Br(P:List UInt8→ByteArray→Prop):Prop:=(∃v,P [] v)∨∃j k u v,P j u∧P k v∧j≠[]∧k≠[]∧hd j≠hd k
theorem GP{w:Option ByteArray}{F:Fo}(h:gJ F):(w.isSome∨2≤F.toL.length)↔Br (xz w F):=by
 constructor
 ·rintro(hw|hl)
  ·obtain⟨v,hv⟩:=iA.1 hw
   exact .inl ⟨v,.inl ⟨rfl,hv⟩⟩
  ·right
   have hs:=pI h;have hc:=gc.1 h;match hL:F.toL,hl with
   |a::b::l,_=>
    have ha:a∈F.toL:=by rw[hL];simp
    have hb:b∈F.toL:=by rw[hL];simp
    obtain⟨r,v,hr⟩:=hs a ha;obtain⟨s,u,hs⟩:=hs b hb;have h1:=(hc.2 a ha).1;have h2:=(hc.2 b hb).1;have:=hc.1;rw[hL]at this;have h3:=(aD.1 this).1 b (av ..);refine⟨a.1++r,b.1++s,v,u,.inr (ju.2 ⟨a,ha,r,rfl,hr⟩),.inr (ju.2 ⟨b,hb,s,rfl,hs⟩),?_,?_,?_⟩
    ·intro e;exact h1 (lX.1 e).1
    ·intro e;exact h2 (lX.1 e).1
    ·rw[qB h1,qB h2];omega
 ·rintro(⟨v,hv⟩|⟨j,k,u,v,hj,hk,nj,nk,hne⟩)
  ·rcases hv with⟨_,hv⟩|hv
   ·left;rw[hv];rfl
   ·exact absurd rfl (qA h hv)
  ·right
   rcases hj with⟨e,_⟩|hj
   ·exact absurd e nj
   rcases hk with⟨e,_⟩|hk
   ·exact absurd e nk
   obtain⟨m,hm,em,_⟩:=tc h hj;obtain⟨n,hn,en,_⟩:=tc h hk;match hL:F.toL with
   | []=>rw[hL]at hm;simp at hm
   | [a]=>
    rw[hL]at hm hn;rw[aF.1 hm]at em;rw[aF.1 hn]at en;omega
   |a::b::l=>simp
end Go.Proofs
namespace Go.Proofs
theorem QX{m n:Bn}(hb:Br (xz m.2.1 m.2.2))(h:∀k v,AI m k v→AI n k v):∃t,m.1=n.1++t:=by
 rcases hb with⟨v,hv⟩|⟨j,k,u,v,hj,hk,nj,nk,hne⟩
 ·obtain⟨r,e,_⟩:=h m.1 v ⟨[],(aJ _).symm,hv⟩
  exact⟨r,e⟩
 ·obtain⟨r,e,_⟩:=h (m.1++j) u ⟨j,rfl,hj⟩
  obtain⟨s,f,_⟩:=h (m.1++k) v ⟨k,rfl,hk⟩;rcases List.append_eq_append_iff.1 e with⟨a,h1,h2⟩|⟨a,h1,h2⟩
  ·rw[h1,au]at f
   have f:=gB f;cases a with
   |nil=>exact⟨[],by rw[h1];simp⟩
   |cons x a=>
    rw[h2]at hne;rw[f]at hne;exact absurd rfl hne
  ·exact⟨a,h1⟩
theorem Pk:∀{F F':Fo},gJ F→gJ F'→(∀k v,vO F k v↔vO F' k v)→F=F'
 | .nil,.nil,_,_,_=>rfl
 | .nil,.cons lab w kids rest,_,h,he=>by
  obtain⟨r,v,hr⟩:=pI h _ (av ..);exact((he _ v).2 (ju.2 ⟨_,av ..,r,rfl,hr⟩)).elim
 | .cons lab w kids rest,.nil,h,_,he=>by
  obtain⟨r,v,hr⟩:=pI h _ (av ..);exact((he _ v).1 (ju.2 ⟨_,av ..,r,rfl,hr⟩)).elim
 | .cons lab w kids rest,.cons lab' w' kids' rest',h,h',he=>by
  have low:∀{lab w kids rest} {F:Fo},gJ (.cons lab w kids rest)→gJ F→(∀k v,vO F k v→vO (.cons lab w kids rest) k v)→∀n∈F.toL,hd lab≤hd n.1:=by
   intro lab w kids rest F h hF hi n hn;obtain⟨r,v,hr⟩:=pI hF n hn;obtain⟨m,hm,e,_⟩:=tc h (hi _ v (ju.2 ⟨n,hn,r,rfl,hr⟩));rw[qB ((gc.1 hF).2 n hn).1]at e;rcases aB.1 hm with rfl|hm
   ·simp only at e;omega
   ·have:=h.2.2.2.1 m hm;omega
  have e1:=low h h' (fun k v=>(he k v).2) _ (av ..)
  have e2:=low h' h (fun k v=>(he k v).1) _ (av ..)
  simp only at e1 e2;have ehd:hd lab=hd lab':=by omega
  have nod:∀{lab w kids rest lab' w' kids' rest'},gJ (.cons lab w kids rest)→gJ (.cons lab' w' kids' rest')→hd lab=hd lab'→(∀k v,vO (.cons lab w kids rest) k v→vO (.cons lab' w' kids' rest') k v)→(∀k v,AI (lab,w,kids) k v→AI (lab',w',kids') k v)∧(∀k v,vO rest k v→vO rest' k v):=by
   intro lab w kids rest lab' w' kids' rest' h h' ehd hi;refine⟨fun k v hk=>?_,fun k v hk=>?_⟩
   ·obtain⟨n,hn,e,hr⟩:=tc h' (hi k v (ju.2 ⟨_,av ..,hk⟩))
    obtain⟨r,rfl,_⟩:=hk;rw[qB h.1]at e;rw[←Fl h' hn (av ..) (by simp only;omega)];exact hr
   ·obtain⟨m,hm,em,_⟩:=tc h.2.2.2.2 hk
    have:=h.2.2.2.1 m hm;obtain⟨n,hn,e,hr⟩:=tc h' (hi k v (Or.inr hk));rcases aB.1 hn with rfl|hn
    ·simp only at e;omega
    ·exact ju.2 ⟨n,hn,hr⟩
  have⟨n1,r1⟩:=nod h h' ehd fun k v=>(he k v).1
  have⟨n2,r2⟩:=nod h' h ehd.symm fun k v=>(he k v).2
  have erest:rest=rest':=Pk h.2.2.2.2 h'.2.2.2.2 fun k v=>⟨r1 k v,r2 k v⟩
  obtain⟨t,ht⟩:=QX (m:=(lab,w,kids)) (n:=(lab',w',kids')) ((GP h.2.2.1).1 h.2.1) n1;obtain⟨t',ht'⟩:=QX (m:=(lab',w',kids')) (n:=(lab,w,kids)) ((GP h'.2.2.1).1 h'.2.1) n2;simp only at ht ht';have hlab:lab=lab':=by
   have:t= []:=by
    have h1:=congrArg fg ht;have h2:=congrArg fg ht';rw[ac]at h1 h2;exact aA.1 (by omega)
   rw[ht,this,aJ]
  subst hlab;have inR:∀{w kids w' kids'},(∀k v,AI (lab,w,kids) k v→AI (lab,w',kids') k v)→∀k v,xz w kids k v→xz w' kids' k v:=by
   intro w kids w' kids' hn k v hk;obtain⟨r,e,hr⟩:=hn (lab++k) v ⟨k,rfl,hk⟩;rw[gB e];exact hr
  have i1:=inR n1;have i2:=inR n2;have ew:w=w':=by
   have wv:∀{w kids w' kids'},gJ kids'→(∀k v,xz w kids k v→xz w' kids' k v)→∀v,w=some v→w'=some v:=by
    intro w kids w' kids' hc hi v hv;rcases hi [] v (.inl ⟨rfl,hv⟩)with⟨_,h⟩|h
    ·exact h
    ·exact absurd rfl (qA hc h)
   exact Option.ext fun v=>⟨wv h'.2.2.1 i1 v,wv h.2.2.1 i2 v⟩
  have kd:∀{w kids w' kids'},gJ kids→(∀k v,xz w kids k v→xz w' kids' k v)→∀k v,vO kids k v→vO kids' k v:=by
   intro w kids w' kids' hc hi k v hk;rcases hi k v (.inr hk)with⟨e,_⟩|h
   ·exact absurd e (qA hc hk)
   ·exact h
  have ekids:kids=kids':=Pk h.2.2.1 h'.2.2.1 fun k v=>⟨kd h.2.2.1 i1 k v,kd h'.2.2.1 i2 k v⟩
  rw[ew,ekids,erest]
def vj(P P':List UInt8→ByteArray→Prop)(k:List UInt8)(v:ByteArray):Prop:=∀k' v',P' k' v'↔(k'=k∧v'=v)∨(k'≠k∧P k' v')
theorem Jc{w:Option ByteArray}{F:Fo}(h:gJ F)(v:ByteArray):vj (xz w F) (xz (some v) F) [] v:=by
 intro k' v';unfold xz;constructor
 ·rintro(⟨e,f⟩|hi)
  ·exact .inl ⟨e,(bK.inj f).symm⟩
  ·exact .inr ⟨qA h hi,.inr hi⟩
 ·rintro(⟨e,f⟩|⟨e,⟨f,_⟩|hi⟩)
  ·exact .inl ⟨e,by rw[f]⟩
  ·exact absurd f e
  ·exact .inr hi
theorem Df{w:Option ByteArray}{F F':Fo}{k:List UInt8}{v:ByteArray}(hk:k≠[])(h:vj (vO F) (vO F') k v):vj (xz w F) (xz w F') k v:=by
 intro k' v';unfold xz;rw[h k' v'];constructor
 ·rintro(⟨e,f⟩|hi|hi)
  ·exact .inr ⟨fun e'=>hk (e'.symm.trans e),.inl ⟨e,f⟩⟩
  ·exact .inl hi
  ·exact .inr ⟨hi.1,.inr hi.2⟩
 ·rintro(hi|⟨e,hi|hi⟩)
  ·exact .inr (.inl hi)
  ·exact .inl hi
  ·exact .inr (.inr ⟨e,hi⟩)
theorem RY{F:Fo}{k:List UInt8}{v:ByteArray}{i:Nat}(h:gJ F)(hk:k≠[])(hi:∀j (hj:j<F.toL.length),j<i→hd F.toL[j].1<hd k)(hi':∀j (hj:j<F.toL.length),i≤j→hd k<hd F.toL[j].1):gJ (.ofL (F.toL.take i++(k,some v,.nil)::F.toL.drop i))∧vj (vO F) (vO (.ofL (F.toL.take i++(k,some v,.nil)::F.toL.drop i))) k v:=by
 have hc:=gc.1 h;have t1:∀n∈F.toL.take i,hd n.1<hd k:=fun n hn=>by
  obtain⟨j,hj,e⟩:=ce hn;rw[aR]at hj;rw[←e,List.getElem_take];exact hi j (by omega) (by omega)
 have t2:∀n∈F.toL.drop i,hd k<hd n.1:=fun n hn=>by
  obtain⟨j,hj,e⟩:=ce hn;rw[aY]at hj;rw[←e,List.getElem_drop];exact hi' _ (by omega) (by omega)
 have mem:∀n,n∈F.toL.take i++(k,some v,.nil)::F.toL.drop i↔n=(k,some v,Fo.nil)∨n∈F.toL:=fun n=>by
  conv=>rhs;rw[←aK i F.toL]
  simp only[List.mem_append,aB];exact⟨fun h=>h.elim (fun h=>.inr (.inl h)) fun h=>h.elim .inl fun h=>.inr (.inr h),fun h=>h.elim (fun h=>.inr (.inl h)) fun h=>h.elim .inl fun h=>.inr (.inr h)⟩
 refine⟨gc.2 ⟨?_,?_⟩,fun k' v'=>?_⟩
 ·rw[Fo.to_of]
  have hp:=hc.1;rw[←aK i F.toL,cl]at hp;refine cl.2 ⟨hp.1,aD.2 ⟨t2,hp.2.1⟩,fun a ha b hb=>?_⟩
  rcases aB.1 hb with rfl|hb
  ·exact t1 a ha
  ·exact hp.2.2 a ha b hb
 ·rw[Fo.to_of]
  intro n hn;rcases(mem n).1 hn with rfl|hn
  ·exact⟨hk,.inl rfl,trivial⟩
  ·exact hc.2 n hn
 ·rw[ju,ju,Fo.to_of]
  constructor
  ·rintro⟨n,hn,r,e,hr⟩
   rcases(mem n).1 hn with rfl|hn
   ·rcases hr with⟨rfl,f⟩|f
    ·exact .inl ⟨by rw[e];exact aJ _,(bK.inj f).symm⟩
    ·exact f.elim
   ·right
    refine⟨fun e'=>?_,n,hn,r,e,hr⟩
    have e2:hd k=hd n.1:=by rw[←e',e,qB (hc.2 n hn).1]
    obtain⟨j,hj,ej⟩:=ce hn;rcases bT j i with h1|h1
    ·have:=hi j hj h1;rw[ej]at this;omega
    ·have:=hi' j hj h1;rw[ej]at this;omega
  ·rintro(⟨rfl,rfl⟩|⟨_,n,hn,h⟩)
   ·exact⟨(k',some v',.nil),(mem _).2 (.inl rfl),[],(aJ _).symm,.inl ⟨rfl,rfl⟩⟩
   ·exact⟨n,(mem _).2 (.inr hn),h⟩
theorem ue{α:Type}{l:List α}{i:Nat}(hi:i<l.length){a x:α}(nd:∀j (hj:j<l.length),j≠i→l[j]≠l[i]):x∈l.set i a↔x=a∨(x∈l∧x≠l[i]):=by
 constructor
 ·intro h
  obtain⟨j,hj,e⟩:=ce h;rw[List.length_set]at hj;rw[List.getElem_set]at e;split at e
  ·exact .inl e.symm
  ·rename_i hne
   exact .inr ⟨by rw[←e];exact bw hj,by rw[←e];exact nd j hj fun e=>hne e.symm⟩
 ·rintro(rfl|⟨h,hne⟩)
  ·exact List.mem_of_getElem (i:=i) (h:=by simpa using hi) (by simp)
  ·obtain⟨j,hj,e⟩:=ce h
   have:i≠j:=by rintro rfl;exact hne e.symm
   exact List.mem_of_getElem (i:=j) (h:=by simpa using hj) (by rw[List.getElem_set_ne this];exact e)
theorem WG{F:Fo}{i:Nat}{m:Bn}(h:gJ F)(hi:i<F.toL.length)(hm:S4 m)(e:hd m.1=hd F.toL[i].1):gJ (.ofL (F.toL.set i m)):=by
 have hc:=gc.1 h;rw[gc,Fo.to_of];refine⟨?_,fun n hn=>?_⟩
 ·rw[cA]at hc⊢
  intro a b ha hb hab;rw[List.length_set]at ha hb;rw[List.getElem_set,List.getElem_set];split
  ·rename_i ea;subst ea
   rw[if_neg (by omega),e];exact hc.1 _ _ ha hb hab
  ·split
   ·rename_i eb;subst eb
    rw[e];exact hc.1 _ _ ha hb hab
   ·exact hc.1 _ _ ha hb hab
 ·rcases List.mem_or_eq_of_mem_set hn with hn|rfl
  ·exact hc.2 n hn
  ·exact hm
theorem KM{F:Fo}(h:gJ F){i:Nat}(hi:i<F.toL.length)(j:Nat)(hj:j<F.toL.length)(hne:j≠i):F.toL[j]≠F.toL[i]:=by
 have hc:=(gc.1 h).1;rw[cA]at hc;intro e;rcases Nat.lt_or_gt_of_ne hne with hl|hl
 ·have:=hc j i hj hi hl;rw[e]at this;omega
 ·have:=hc i j hi hj hl;rw[e]at this;omega
theorem Mr{F:Fo}{i:Nat}{m:Bn}{k:List UInt8}{v:ByteArray}(h:gJ F)(hi:i<F.toL.length)(ek:hd F.toL[i].1=hd k)(hp:vj (AI F.toL[i]) (AI m) k v):vj (vO F) (vO (.ofL (F.toL.set i m))) k v:=by
 intro k' v';have hc:=gc.1 h;rw[ju,ju,Fo.to_of];constructor
 ·rintro⟨n,hn,hr⟩
  rcases(ue hi (KM h hi)).1 hn with rfl|⟨hn,hne⟩
  ·rcases(hp k' v').1 hr with h1|⟨h1,h2⟩
   ·exact .inl h1
   ·exact .inr ⟨h1,_,bw hi,h2⟩
  ·refine .inr ⟨fun e=>hne ?_,n,hn,hr⟩
   obtain⟨r,e',_⟩:=hr;refine Fl h hn (bw hi) ?_;rw[ek,←e,e',qB (hc.2 n hn).1]
 ·rintro(h1|⟨h1,n,hn,hr⟩)
  ·exact⟨m,(ue hi (KM h hi)).2 (.inl rfl),(hp k' v').2 (.inl h1)⟩
  ·by_cases e:n=F.toL[i]
   ·exact⟨m,(ue hi (KM h hi)).2 (.inl rfl),(hp k' v').2 (.inr ⟨h1,by rw[←e];exact hr⟩)⟩
   ·exact⟨n,(ue hi (KM h hi)).2 (.inr ⟨hn,e⟩),hr⟩
theorem RX{lab r:List UInt8}{w w':Option ByteArray}{F F':Fo}{v:ByteArray}(h:vj (xz w F) (xz w' F') r v):vj (AI (lab,w,F)) (AI (lab,w',F')) (lab++r) v:=by
 intro k' v';constructor
 ·rintro⟨s,e,hs⟩
  rcases(h s v').1 hs with⟨rfl,rfl⟩|⟨h1,h2⟩
  ·exact .inl ⟨e,rfl⟩
  ·exact .inr ⟨fun e'=>h1 (gB (e.symm.trans e')),s,e,h2⟩
 ·rintro(⟨rfl,rfl⟩|⟨h1,s,e,hs⟩)
  ·exact⟨r,rfl,(h r v').2 (.inl ⟨rfl,rfl⟩)⟩
  ·exact⟨s,e,(h s v').2 (.inr ⟨fun e'=>h1 (by rw[e,e']),hs⟩)⟩
def cm:List UInt8→List UInt8→Nat
 |a::x,b::y=>if a=b then cm x y+1 else 0
 |_,_=>0
theorem Rc:∀(x y:List UInt8),cm x y≤x.length∧cm x y≤y.length
 | [],_=>by simp[cm]
 |_::_,[]=>by simp[cm]
 |a::x,b::y=>by unfold cm;have:=Rc x y;split<;>simp<;>omega
theorem Ra:∀(x y:List UInt8),x.take (cm x y)=y.take (cm x y)
 | [],_=>by simp[cm]
 |_::_,[]=>by simp[cm]
 |a::x,b::y=>by
  unfold cm;split
  ·rename_i e;rw[dW,dW,Ra x y,e]
  ·simp
theorem Lf:∀(x y:List UInt8),cm x y<x.length→cm x y<y.length→hd (x.drop (cm x y))≠hd (y.drop (cm x y))
 | [],_=>by simp[cm]
 |_::_,[]=>by simp[cm]
 |a::x,b::y=>by
  unfold cm;split
  ·rename_i e
   intro h1 h2;rw[List.length_cons]at h1 h2;rw[gZ,gZ];exact Lf x y (by omega) (by omega)
  ·rename_i e
   intro _ _ h;exact e (md.1 h)
theorem UO{x y:List UInt8}(hx:x≠[])(hy:y≠[])(h:hd x=hd y):0<cm x y:=by
 match x,y,hx,hy with
 |a::x,b::y,_,_=>
  unfold cm;rw[if_pos (show a=b from md.1 h)]
  omega
theorem Sq{lab:List UInt8}{w:Option ByteArray}{F:Fo}(c:Nat):∀k v,AI (lab.take c,none,.cons (lab.drop c) w F .nil) k v↔AI (lab,w,F) k v:=by
 intro k v;constructor
 ·rintro⟨r,e,⟨_,h⟩|(⟨s,rfl,h⟩|h)⟩
  ·cases h
  ·exact⟨s,by rw[e];simp only;rw[←au,aK],h⟩
  ·exact h.elim
 ·rintro⟨s,e,h⟩
  exact⟨lab.drop c++s,by rw[e];simp only;rw[←au,aK],.inr (.inl ⟨s,rfl,h⟩)⟩
theorem UW{lab r:List UInt8}{w w':Option ByteArray}{F F':Fo}{v:ByteArray}(hl:lab≠[])(hb:w.isSome∨2≤F.toL.length)(hF:gJ F)(hne:r≠[]→hd r≠hd lab)(h:vj (xz none (.cons lab w F .nil)) (xz w' F') r v):Br (xz w' F'):=by
 by_cases e:r= []
 ·subst e
  exact .inl ⟨v,(h [] v).2 (.inl ⟨rfl,rfl⟩)⟩
 ·have hc:gJ (.cons lab w F .nil):=⟨hl,hb,hF,fun n hn=>by simp[Fo.toL]at hn,trivial⟩
  obtain⟨s,u,hs⟩:=pI hc _ (av ..);simp only at hs;have e2:hd (lab++s)=hd lab:=qB hl;refine .inr ⟨r,lab++s,v,u,(h r v).2 (.inl ⟨rfl,rfl⟩),(h _ u).2 (.inr ⟨fun e'=>hne e (by rw[←e',e2]),.inr (.inl ⟨s,rfl,hs⟩)⟩),e,fun e'=>hl (lX.1 e').1,by rw[e2];exact hne e⟩
theorem WJ{P P':List UInt8→ByteArray→Prop}{k:List UInt8}{v:ByteArray}(hb:Br P)(h:vj P P' k v):Br P':=by
 have keep:∀j u,P j u→∃u',P' j u':=fun j u hj=>by
  by_cases e:j=k
  ·exact⟨v,(h j v).2 (.inl ⟨e,rfl⟩)⟩
  ·exact⟨u,(h j u).2 (.inr ⟨e,hj⟩)⟩
 rcases hb with⟨u,hu⟩|⟨j,k',u,u',hj,hk,r⟩
 ·obtain⟨u',h'⟩:=keep [] u hu
  exact .inl ⟨u',h'⟩
 ·obtain⟨a,ha⟩:=keep j u hj
  obtain⟨b,hb⟩:=keep k' u' hk;exact .inr ⟨j,k',a,b,ha,hb,r⟩
end Go.Proofs
namespace Go.Proofs
open Go.Lift
theorem CS(n:Int):0≤IntKind.wrap .u64 n∧IntKind.wrap .u64 n<18446744073709551616:=by rw[IntKind.wrap_u64];omega
theorem gD{x:Int}(h: -4611686018427387904≤x∧x≤4611686018427387904):IntKind.wrap .i64 x=x:=Go.IntWalk.i64_in _ (by omega)
theorem cS{i n:Nat}(h:i<n)(hn:n≤4611686018427387904):IntKind.wrap .i64 ((i:Int)+1)=((i+1:Nat):Int):=by rw[gD (by omega)];omega
theorem tD{h:ae}{b i:Nat}{c:Array Value}{t:TypeId}{v:Value}{k:ae→Prop}(hb:h[b]? =some (.cells c t (0,0)))
  (hk:∀h',h'[b]? =some (.cells (c.setIfInBounds i v) t (0,0))→Upd (· =b) h h'→k h'):At (hset h ⟨b,i,none⟩ v) k:=by
 refine hk _ ?_ (Upd.hset _ _ rfl);rw[Gp hb,j4 hb]
def Nf(a b:Int):Int:=IntKind.wrap .u64 (ao (IntKind.bits .u64) a&&&ao (IntKind.bits .u64) b).toNat
def dP(a b:Int):Int:=IntKind.wrap .u64 (ao (IntKind.bits .u64) a^^^ao (IntKind.bits .u64) b).toNat
def F7(a b:Int):Int:=IntKind.wrap .u64 (ao (IntKind.bits .u64) a|||ao (IntKind.bits .u64) b).toNat
def FT(x n:Int):Int:=
 F7 (IntKind.wrap .u64 (x*2^(min (Nf (IntKind.wrap .u64 n) 63).toNat (IntKind.bits .u64)))) (Int.fdiv x (2^(min (IntKind.wrap .u64 (64-Nf (IntKind.wrap .u64 n) 63)).toNat (IntKind.bits .u64))))
theorem C7{x n:Int}{h:ae}{K:Int→ae→Prop}(hk:K (FT x n) h):HC PG dK [.int .u64 x,.int .i64 n] [.c (.int .u64)] K h:=by
 refine vl x n ?_;unfold oG;exact⟨(CS _).1,(CS _).1,hk⟩
abbrev Q4:=Int×Int×Int×Int
def q4(s:Q4):Array Value:= #[.int .u64 s.1,.int .u64 s.2.1,.int .u64 s.2.2.1,.int .u64 s.2.2.2]
def U9(a b:Int):Int:=IntKind.wrap .u64 (a+b)
def Vs(s:Q4):Q4:=(U9 s.1 s.2.1,s.2)
def VU(s:Q4):Q4:=(s.1,dP (FT s.2.1 13) s.1,s.2.2)
def W2(s:Q4):Q4:=(FT s.1 32,s.2)
def XD(s:Q4):Q4:=(s.1,s.2.1,U9 s.2.2.1 s.2.2.2,s.2.2.2)
def Ye(s:Q4):Q4:=(s.1,s.2.1,s.2.2.1,dP (FT s.2.2.2 16) s.2.2.1)
def YC(s:Q4):Q4:=(U9 s.1 s.2.2.2,s.2)
def Zc(s:Q4):Q4:=(s.1,s.2.1,s.2.2.1,dP (FT s.2.2.2 21) s.1)
def Zn(s:Q4):Q4:=(s.1,s.2.1,U9 s.2.2.1 s.2.1,s.2.2.2)
def s09(s:Q4):Q4:=(s.1,dP (FT s.2.1 17) s.2.2.1,s.2.2)
def XC(s:Q4):Q4:=(s.1,s.2.1,FT s.2.2.1 32,s.2.2.2)
def lJ(s:Q4):Q4:=XC (s09 (Zn (Zc (YC (Ye (XD (W2 (VU (Vs s)))))))))
def px:Nat→Q4→Q4
 |0,s=>s
 |n+1,s=>px n (lJ s)
theorem qy{h:ae}{b i:Nat}{t:TypeId}{s s':Q4}{v:Value}{k:ae→Prop}(hb:h[b]? =some (.cells (q4 s) t (0,0))) (e:(q4 s).setIfInBounds i v=q4 s')
  (hk:∀h',h'[b]? =some (.cells (q4 s') t (0,0))→Upd (· =b) h h'→k h'):At (hset h ⟨b,i,none⟩ v) k:=
 tD hb fun h' hb' hu=>hk h' (e▸hb') hu
theorem IW{n:Nat}(hn:n≤100){h:ae}{b:Nat}{t:TypeId}{s:Q4}(hb:h[b]? =some (.cells (q4 s) t (0,0))) {K:Unit→ae→Prop}
  (hk:∀h',h'[b]? =some (.cells (q4 (px n s)) t (0,0))→Upd (· =b) h h'→K () h'):HC PG jU [.pointer (some ⟨b,0,none⟩),.int .i64 n] [] K h:=by
 refine AM _ _ ?_;unfold tK bM cB dS eW nf;refine LoopP.ghost (fun(g:Nat×Q4) (t':Int) h'=>t'=(g.1:Int)∧g.1≤n∧h'[b]? =some (.cells (q4 g.2) t (0,0))∧Upd (· =b) h h'∧px (n-g.1) g.2=px n s) (fun g=>n-g.1) (0,s) ⟨rfl,Nat.zero_le _,hb,Upd.refl _ _,rfl⟩ ?_
 rintro I ⟨i,s1⟩ t' h' ⟨ht,hi,hb1,hu,hr⟩ hI;simp only at ht hi hb1 hr;subst ht;refine az (fun hlt=>?_) fun hge=>?_
 ·have hlt:i<n:=by omega
  have c:∀{h:ae} {s:Q4} {i:Nat},h[b]? =some (.cells (q4 s) t (0,0))→aP h ⟨b,0+i,none⟩=(q4 s)[i]?:=fun hb=>by rw[aM];exact bq hb
  have w:∀{h:ae} {s:Q4} {i:Nat},h[b]? =some (.cells (q4 s) t (0,0))→i<4→Wr h ⟨b,0+i,none⟩:=fun hb hi=>by rw[aM];exact ii hb hi
  simp only[show((0:Int)).toNat*1=0 from rfl,show((1:Int)).toNat*1=1 from rfl,show((2:Int)).toNat*1=2 from rfl,show((3:Int)).toNat*1=3 from rfl]
  refine⟨_,rfl,by decide,_,c (i:=0) hb1,_,rfl,by decide,_,c (i:=1) hb1,_,rfl,by decide,w (i:=0) hb1 (by decide),qy (s':=Vs s1) hb1 rfl fun h2 hb2 hu2=>?_⟩
  refine⟨_,rfl,by decide,_,c (i:=1) hb2,_,rfl,by decide,_,c (i:=0) hb2,_,rfl,C7 ⟨c (i:=0) hb2,by decide,w (i:=1) hb2 (by decide),qy (s':=VU (Vs s1)) hb2 rfl fun h3 hb3 hu3=>?_⟩⟩
  refine⟨_,rfl,by decide,_,c (i:=0) hb3,_,rfl,C7 ⟨by decide,w (i:=0) hb3 (by decide),qy (s':=W2 (VU (Vs s1))) hb3 rfl fun h4 hb4 hu4=>?_⟩⟩
  refine⟨_,rfl,by decide,_,c (i:=2) hb4,_,rfl,by decide,_,c (i:=3) hb4,_,rfl,by decide,w (i:=2) hb4 (by decide),qy (s':=XD (W2 (VU (Vs s1)))) hb4 rfl fun h5 hb5 hu5=>?_⟩
  refine⟨_,rfl,by decide,_,c (i:=3) hb5,_,rfl,by decide,_,c (i:=2) hb5,_,rfl,C7 ⟨c (i:=2) hb5,by decide,w (i:=3) hb5 (by decide),qy (s':=Ye (XD (W2 (VU (Vs s1))))) hb5 rfl fun h6 hb6 hu6=>?_⟩⟩
  refine⟨_,rfl,by decide,_,c (i:=0) hb6,_,rfl,by decide,_,c (i:=3) hb6,_,rfl,by decide,w (i:=0) hb6 (by decide),qy (s':=YC (Ye (XD (W2 (VU (Vs s1)))))) hb6 rfl fun h7 hb7 hu7=>?_⟩
  refine⟨_,rfl,by decide,_,c (i:=3) hb7,_,rfl,by decide,_,c (i:=0) hb7,_,rfl,C7 ⟨c (i:=0) hb7,by decide,w (i:=3) hb7 (by decide),qy (s':=Zc (YC (Ye (XD (W2 (VU (Vs s1))))))) hb7 rfl fun h8 hb8 hu8=>?_⟩⟩
  refine⟨_,rfl,by decide,_,c (i:=2) hb8,_,rfl,by decide,_,c (i:=1) hb8,_,rfl,by decide,w (i:=2) hb8 (by decide),qy (s':=Zn (Zc (YC (Ye (XD (W2 (VU (Vs s1)))))))) hb8 rfl fun h9 hb9 hu9=>?_⟩
  refine⟨_,rfl,by decide,_,c (i:=1) hb9,_,rfl,by decide,_,c (i:=2) hb9,_,rfl,C7 ⟨c (i:=2) hb9,by decide,w (i:=1) hb9 (by decide),qy (s':=s09 (Zn (Zc (YC (Ye (XD (W2 (VU (Vs s1))))))))) hb9 rfl fun h10 hb10 hu10=>?_⟩⟩
  refine⟨_,rfl,by decide,_,c (i:=2) hb10,_,rfl,C7 ⟨by decide,w (i:=2) hb10 (by decide),qy (s':=lJ s1) hb10 rfl fun h11 hb11 hu11=>?_⟩⟩
  rw[cS hlt (by omega)];refine hI (i+1,lJ s1) _ _ ⟨rfl,hlt,hb11,hu.tr (hu2.tr (hu3.tr (hu4.tr (hu5.tr (hu6.tr (hu7.tr (hu8.tr (hu9.tr (hu10.tr hu11))))))))),?_⟩ (by simp only;omega);simp only;rw[←hr,show n-i=(n-(i+1))+1 by omega];rfl
 ·obtain rfl:i=n:=by omega
  rw[gj]at hr;have hr:s1=px i s:=hr;rw[←hr]at hk;exact hk _ hb1 hu
end Go.Proofs
namespace Go.Proofs
open Go.Lift
def Nc(s:ByteArray)(i:Nat):Int:=match s[i]? with|some b=>(b.toNat:Int)|none=>0
def W1(b:Int)(n:Int):Int:=IntKind.wrap .u64 ((IntKind.wrap .u64 b)*2^(min n.toNat (IntKind.bits .u64)))
def wj(s:ByteArray):Nat→Int→Int
 |0,t=>t
 |k+1,t=>wj s k (F7 t (if k=0 then IntKind.wrap .u64 (Nc s 0)else W1 (Nc s k) ((8*k:Nat):Int)))
def zi(s:ByteArray):Int:=wj s s.size 0
theorem uy{s:ByteArray}{i:Nat}(h:i<s.size):∃b,s[i]? =some b∧Nc s i=(b.toNat:Int):=⟨s[i],getElem?_pos s i h,by simp[Nc,getElem?_pos s i h]⟩
theorem Qg{s:ByteArray}(hs:s.size≤8){h:ae}{K:Int→ae→Prop}(hk:K (zi s) h):HC PG wJ [.string s] [.c (.int .u64)] K h:=by
 refine PD s ?_;unfold Hf;refine Join.intro (fun t h'=>h'=h∧1≤s.size∧wj s 1 t=wj s s.size 0) (fun R1 hR1=>?_) ?_
 ·refine Join.intro (fun t h'=>h'=h∧2≤s.size∧wj s 2 t=wj s s.size 0) (fun R2 hR2=>?_) ?_
  ·refine Join.intro (fun t h'=>h'=h∧3≤s.size∧wj s 3 t=wj s s.size 0) (fun R3 hR3=>?_) ?_
   ·refine Join.intro (fun t h'=>h'=h∧4≤s.size∧wj s 4 t=wj s s.size 0) (fun R4 hR4=>?_) ?_
    ·refine Join.intro (fun t h'=>h'=h∧5≤s.size∧wj s 5 t=wj s s.size 0) (fun R5 hR5=>?_) ?_
     ·refine Join.intro (fun t h'=>h'=h∧6≤s.size∧wj s 6 t=wj s s.size 0) (fun R6 hR6=>?_) ?_
      ·refine Join.intro (fun t h'=>h'=h∧7≤s.size∧wj s 7 t=wj s s.size 0) (fun R7 hR7=>?_) ?_
       ·refine CondP.intro (fun e=>?_) fun e8=>?_
        ·have e:s.size=8:=by have:=of_decide_eq_true (by simpa using e:decide ((s.size:Int)=8)=true);omega
         obtain⟨b,hb,hv⟩:=uy (s:=s) (i:=7) (by omega);refine⟨b,by decide,hb,by decide,hR7 _ _ ⟨rfl,by omega,?_⟩⟩
         rw[e,←hv];rfl
        refine CondP.intro (fun e=>?_) fun e7=>?_
        ·have e:s.size=7:=by have:=of_decide_eq_true (by simpa using e:decide ((s.size:Int)=7)=true);omega
         exact hR7 _ _ ⟨rfl,by omega,by rw[e]⟩
        refine CondP.intro (fun e=>?_) fun e6=>?_
        ·have e:s.size=6:=by have:=of_decide_eq_true (by simpa using e:decide ((s.size:Int)=6)=true);omega
         exact hR6 _ _ ⟨rfl,by omega,by rw[e]⟩
        refine CondP.intro (fun e=>?_) fun e5=>?_
        ·have e:s.size=5:=by have:=of_decide_eq_true (by simpa using e:decide ((s.size:Int)=5)=true);omega
         exact hR5 _ _ ⟨rfl,by omega,by rw[e]⟩
        refine CondP.intro (fun e=>?_) fun e4=>?_
        ·have e:s.size=4:=by have:=of_decide_eq_true (by simpa using e:decide ((s.size:Int)=4)=true);omega
         exact hR4 _ _ ⟨rfl,by omega,by rw[e]⟩
        refine CondP.intro (fun e=>?_) fun e3=>?_
        ·have e:s.size=3:=by have:=of_decide_eq_true (by simpa using e:decide ((s.size:Int)=3)=true);omega
         exact hR3 _ _ ⟨rfl,by omega,by rw[e]⟩
        refine CondP.intro (fun e=>?_) fun e2=>?_
        ·have e:s.size=2:=by have:=of_decide_eq_true (by simpa using e:decide ((s.size:Int)=2)=true);omega
         exact hR2 _ _ ⟨rfl,by omega,by rw[e]⟩
        refine CondP.intro (fun e=>?_) fun e1=>?_
        ·have e:s.size=1:=by have:=of_decide_eq_true (by simpa using e:decide ((s.size:Int)=1)=true);omega
         exact hR1 _ _ ⟨rfl,by omega,by rw[e]⟩
        have e:s.size=0:=by
         have q1:¬(s.size:Int)=1:=by simpa using e1
         have q2:¬(s.size:Int)=2:=by simpa using e2
         have q3:¬(s.size:Int)=3:=by simpa using e3
         have q4:¬(s.size:Int)=4:=by simpa using e4
         have q5:¬(s.size:Int)=5:=by simpa using e5
         have q6:¬(s.size:Int)=6:=by simpa using e6
         have q7:¬(s.size:Int)=7:=by simpa using e7
         have q8:¬(s.size:Int)=8:=by simpa using e8
         omega
        unfold zi at hk;rw[e]at hk;exact hk
       ·rintro t _ ⟨rfl,hsz,ht⟩
        obtain⟨b,hb,hv⟩:=uy (s:=s) (i:=6) (by omega);refine⟨b,by decide,hb,by decide,hR6 _ _ ⟨rfl,by omega,?_⟩⟩
        rw[←ht,←hv];rfl
      ·rintro t _ ⟨rfl,hsz,ht⟩
       obtain⟨b,hb,hv⟩:=uy (s:=s) (i:=5) (by omega);refine⟨b,by decide,hb,by decide,hR5 _ _ ⟨rfl,by omega,?_⟩⟩
       rw[←ht,←hv];rfl
     ·rintro t _ ⟨rfl,hsz,ht⟩
      obtain⟨b,hb,hv⟩:=uy (s:=s) (i:=4) (by omega);refine⟨b,by decide,hb,by decide,hR4 _ _ ⟨rfl,by omega,?_⟩⟩
      rw[←ht,←hv];rfl
    ·rintro t _ ⟨rfl,hsz,ht⟩
     obtain⟨b,hb,hv⟩:=uy (s:=s) (i:=3) (by omega);refine⟨b,by decide,hb,by decide,hR3 _ _ ⟨rfl,by omega,?_⟩⟩
     rw[←ht,←hv];rfl
   ·rintro t _ ⟨rfl,hsz,ht⟩
    obtain⟨b,hb,hv⟩:=uy (s:=s) (i:=2) (by omega);refine⟨b,by decide,hb,by decide,hR2 _ _ ⟨rfl,by omega,?_⟩⟩
    rw[←ht,←hv];rfl
  ·rintro t _ ⟨rfl,hsz,ht⟩
   obtain⟨b,hb,hv⟩:=uy (s:=s) (i:=1) (by omega);refine⟨b,by decide,hb,by decide,hR1 _ _ ⟨rfl,by omega,?_⟩⟩
   rw[←ht,←hv];rfl
 ·rintro t _ ⟨rfl,hsz,ht⟩
  obtain⟨b,hb,hv⟩:=uy (s:=s) (i:=0) (by omega);refine⟨b,by decide,hb,?_⟩
  unfold zi at hk;rw[←ht]at hk;rw[←hv];exact hk
end Go.Proofs
namespace Go.Proofs
open Go.Lift
def rV(m:Int)(s:Q4):Q4:=
 let r:=px 2 (s.1,s.2.1,s.2.2.1,dP s.2.2.2 m)
 (dP r.1 m,r.2)
theorem Qo{m:Int}{h:ae}{b:Nat}{t:TypeId}{s:Q4}(hb:h[b]? =some (.cells (q4 s) t (0,0))) {K:Unit→ae→Prop}
  (hk:∀h',h'[b]? =some (.cells (q4 (rV m s)) t (0,0))→Upd (· =b) h h'→K () h'):HC PG nr [.pointer (some ⟨b,0,none⟩),.int .u64 m] [] K h:=by
 refine DG _ _ ?_;unfold vY bM cB uV dS;have c:∀{h:ae} {s:Q4} {i:Nat},h[b]? =some (.cells (q4 s) t (0,0))→aP h ⟨b,0+i,none⟩=(q4 s)[i]?:=fun hb=>by rw[aM];exact bq hb
 have w:∀{h:ae} {s:Q4} {i:Nat},h[b]? =some (.cells (q4 s) t (0,0))→i<4→Wr h ⟨b,0+i,none⟩:=fun hb hi=>by rw[aM];exact ii hb hi
 simp only[show((0:Int)).toNat*1=0 from rfl,show((3:Int)).toNat*1=3 from rfl]
 refine⟨_,rfl,by decide,_,c (i:=3) hb,_,rfl,by decide,w (i:=3) hb (by decide),qy (s':=(s.1,s.2.1,s.2.2.1,dP s.2.2.2 m)) hb rfl fun h2 hb2 hu2=>?_⟩
 refine IW (n:=2) (by omega) hb2 fun h3 hb3 hu3=>?_
 have et:rV m s=(dP (px 2 (s.1,s.2.1,s.2.2.1,dP s.2.2.2 m)).1 m,(px 2 (s.1,s.2.1,s.2.2.1,dP s.2.2.2 m)).2):=by unfold rV;rfl
 rw[et]at hk;generalize px 2 (s.1,s.2.1,s.2.2.1,dP s.2.2.2 m)=r at hb3 hk;refine⟨_,rfl,by decide,_,c (i:=0) hb3,_,rfl,by decide,w (i:=0) hb3 (by decide),qy (s':=(dP r.1 m,r.2)) hb3 rfl fun h4 hb4 hu4=>?_⟩
 exact hk _ hb4 (hu2.tr (hu3.tr hu4))
def D2:Nat→ByteArray→Q4→ByteArray×Q4
 |0,s,q=>(s,q)
 |n+1,s,q=>if 8≤s.size then D2 n (s.extract 8 s.size) (rV (zi (s.extract 0 8)) q)else(s,q)
def X0(r:Q4):Int:=dP (dP (dP r.1 r.2.1) r.2.2.1) r.2.2.2
def Wz(q:Q4):Int:=X0 (px 4 (q.1,q.2.1,dP q.2.2.1 255,q.2.2.2))
def Yy(n:Nat)(g:ByteArray×Q4):Int:=Wz (rV (F7 (zi g.1) (W1 (n:Int) 56)) g.2)
def N5(k0 k1:Int)(s:ByteArray):Int:=
 Yy s.size (D2 s.size s (dP k0 8317987319222330741,dP k1 7237128888997146477,dP k0 7816392313619706465,dP k1 8387220255154660723))
theorem WA{h29:ae}{b:Nat}{t:TypeId}{r:Q4}(hb:h29[b]? =some (.cells (q4 r) t (0,0))) {K:Int→Prop} (hk:K (X0 r)):
  (((0:Int)≤(0:Int)∧(0:Int)<((4:Nat):Int))∧
   ∃v30:Int,aP h29 (adr ⟨b,0,none⟩ ((0:Int).toNat*1))=some (.int .u64 v30)∧
   (((0:Int)≤(1:Int)∧(1:Int)<((4:Nat):Int))∧
    ∃v31:Int,aP h29 (adr ⟨b,0,none⟩ ((1:Int).toNat*1))=some (.int .u64 v31)∧
    Bd (IntKind.wrap .u64 (ao (IntKind.bits .u64) v30^^^ao (IntKind.bits .u64) v31).toNat:Int) (fun n32=>
     (((0:Int)≤(2:Int)∧(2:Int)<((4:Nat):Int))∧
      ∃v33:Int,aP h29 (adr ⟨b,0,none⟩ ((2:Int).toNat*1))=some (.int .u64 v33)∧
      Bd (IntKind.wrap .u64 (ao (IntKind.bits .u64) n32^^^ao (IntKind.bits .u64) v33).toNat:Int) (fun n34=>
       (((0:Int)≤(3:Int)∧(3:Int)<((4:Nat):Int))∧
        ∃v35:Int,aP h29 (adr ⟨b,0,none⟩ ((3:Int).toNat*1))=some (.int .u64 v35)∧
        Bd (IntKind.wrap .u64 (ao (IntKind.bits .u64) n34^^^ao (IntKind.bits .u64) v35).toNat:Int) (fun n36=>
         K n36))))))):=by
 have c:∀{i:Nat},aP h29 ⟨b,0+i,none⟩=(q4 r)[i]?:=by intro i;rw[aM];exact bq hb
 exact⟨by decide,_,c (i:=0),by decide,_,c (i:=1),by decide,_,c (i:=2),by decide,_,c (i:=3),hk⟩
theorem Wy{h24:ae}{b:Nat}{t:TypeId}{q:Q4}(hb:h24[b]? =some (.cells (q4 q) t (0,0))) {K:Unit→ae→Prop}
  (hk:∀h',h'[b]? =some (.cells (q4 (px 4 (q.1,q.2.1,dP q.2.2.1 255,q.2.2.2))) t (0,0))→Upd (· =b) h24 h'→K () h'):
  (((0:Int)≤(2:Int)∧(2:Int)<((4:Nat):Int))∧
   ∃v25:Int,aP h24 (adr ⟨b,0,none⟩ ((2:Int).toNat*1))=some (.int .u64 v25)∧
   Bd (IntKind.wrap .u64 (ao (IntKind.bits .u64) v25^^^ao (IntKind.bits .u64) 255).toNat:Int) (fun n26=>
    (((0:Int)≤(2:Int)∧(2:Int)<((4:Nat):Int))∧
     (Wr h24 (adr ⟨b,0,none⟩ ((2:Int).toNat*1))∧
      At (hset h24 (adr ⟨b,0,none⟩ ((2:Int).toNat*1)) (.int .u64 n26)) (fun h27=>
       HC PG jU [.pointer (some ⟨b,0,none⟩),.int .i64 4] [] K h27))))):=by
 have c:∀{i:Nat},aP h24 ⟨b,0+i,none⟩=(q4 q)[i]?:=by intro i;rw[aM];exact bq hb
 refine⟨by decide,_,c (i:=2),by decide,by rw[show((2:Int)).toNat*1=2 from rfl,bX];exact ii hb (by simp[q4]),?_⟩
 refine qy (s':=(q.1,q.2.1,dP q.2.2.1 255,q.2.2.2)) hb rfl fun h3 hb3 hu3=>?_
 exact IW (n:=4) (by omega) hb3 fun h4 hb4 hu4=>hk h4 hb4 (hu3.tr hu4)
theorem bE{h:ae}{k:ae→Prop}(hk:k h):At h k:=hk
theorem Xx{k0 k1:Int}{s:ByteArray}{h:ae}{K:Int→ae→Prop}(hk:∀h',Upd No h h'→K (N5 k0 k1 s) h'):HC PG Dn [.agg #[.int .u64 k0,.int .u64 k1],.string s] [.c (.int .u64)] K h:=by
 refine ST (k0,k1) s ?_;unfold JX bM cB af nv uV dS eW YE Rm Rp VA;have k1':=Upd.hnew No h [.int .u64 k0,.int .u64 k1] mg;have b1:=cq h [.int .u64 k0,.int .u64 k1] mg;have z1:=iM h [.int .u64 k0,.int .u64 k1] mg;refine bE ?_;simp only[cV h];generalize hnew h [.int .u64 k0,.int .u64 k1] mg=h1 at k1' b1 z1;refine⟨k0,by rw[bX,bq b1];rfl,k1,by rw[bX,bq b1];rfl,k0,by rw[bX,bq b1];rfl,k1,by rw[bX,bq b1];rfl,?_⟩
 have k2:=Upd.hnew No h1 [.int .u64 0,.int .u64 0,.int .u64 0,.int .u64 0] ku;have b2:=cq h1 [.int .u64 0,.int .u64 0,.int .u64 0,.int .u64 0] ku;simp only[cV h1];simp only[Bd];refine bE ?_;refine⟨.inr ⟨_,rfl,fun j hj=>by rw[bX];exact ii b2 (by simp at hj⊢;omega)⟩,?_⟩
 refine bE ?_;rw[jJ _ _ 0 0 _ b2 (by simp)];have b3:=j4 (o:=.cells (q4 (dP k0 8317987319222330741,dP k1 7237128888997146477,dP k0 7816392313619706465,dP k1 8387220255154660723)) ku (0,0)) b2;have k3:Upd No h _:=k1'.tr (k2.trans (M':=(· =h1.size)) (Upd.set (hnew h1 [.int .u64 0,.int .u64 0,.int .u64 0,.int .u64 0] ku) (.cells (q4 (dP k0 8317987319222330741,dP k1 7237128888997146477,dP k0 7816392313619706465,dP k1 8387220255154660723)) ku (0,0)) rfl) fun b hb=>.inr (Nat.le_of_eq hb.symm))
 refine LoopP.ghost (fun(g:Nat×Q4) (t':ByteArray) h'=>t'.size≤g.1∧h'[h1.size]? =some (.cells (q4 g.2) ku (0,0))∧Upd No h h'∧D2 g.1 t' g.2=D2 s.size s (dP k0 8317987319222330741,dP k1 7237128888997146477,dP k0 7816392313619706465,dP k1 8387220255154660723)) (fun g=>g.1) (s.size,_)
  ⟨aq _,b3,k3,rfl⟩ ?_
 rintro I ⟨n,q⟩ t' h' ⟨hn,hb,hu,hg⟩ hI;simp only at hn hb hg;have hsh:∀b,b=h1.size→No b∨h.size≤b:=fun b hb=>.inr (by omega)
 refine az (fun hge=>?_) fun hlt=>?_
 ·have hge:8≤t'.size:=by omega
  cases n with
  |zero=>omega
  |succ n=>
   refine⟨by omega,Qg (by rw[fN];show min 8 _-0≤8;omega) (Qo hb fun h2 hb2 hu2=>⟨by omega,?_⟩)⟩
   have e8:((8:Int)).toNat=8:=rfl;rw[e8]at hb2⊢;refine hI (n,rV (zi (t'.extract 0 8)) q) _ _ ⟨by simp only[fN];omega,hb2,hu.trans hu2 hsh,?_⟩ (by simp only;omega);rw[←hg];simp only[D2,if_pos hge]
 ·have hlt:t'.size<8:=by omega
  have hg:(t',q)=D2 s.size s (dP k0 8317987319222330741,dP k1 7237128888997146477,dP k0 7816392313619706465,dP k1 8387220255154660723):=by
   rw[←hg];cases n with
   |zero=>rfl
   |succ n=>simp only[D2,if_neg (show ¬8≤t'.size by omega)]
  have c:∀{h:ae} {s:Q4} {i:Nat},h[h1.size]? =some (.cells (q4 s) ku (0,0))→aP h ⟨h1.size,0+i,none⟩=(q4 s)[i]?:=fun hb=>by rw[aM];exact bq hb
  have w:∀{h:ae} {s:Q4} {i:Nat},h[h1.size]? =some (.cells (q4 s) ku (0,0))→i<4→Wr h ⟨h1.size,0+i,none⟩:=fun hb hi=>by rw[aM];exact ii hb hi
  have hsv:N5 k0 k1 s=Wz (rV (F7 (zi t') (W1 (s.size:Int) 56)) q):=by unfold N5;rw[←hg];rfl
  rw[hsv]at hk;refine Qg (by omega) ⟨by decide,Qo (m:=F7 (zi t') (W1 (s.size:Int) 56)) hb fun h2 hb2 hu2=>?_⟩
  refine Wy hb2 fun h4 hb4 hu4=>WA (K:=fun n=>K n h4) hb4 ?_
  exact hk h4 ((hu.trans hu2 hsh).trans hu4 hsh)
structure Hs where
 k0:Int
 k1:Int
 mask:Int
def fU(h:Hs)(s:ByteArray):Int:=Nf (N5 h.k0 h.k1 s) h.mask
theorem uj{x:Hs}{s:ByteArray}{h:ae}{K:Int→ae→Prop}(hk:∀h',Upd No h h'→K (fU x s) h'):HC PG eN [.agg #[.int .u64 x.k0,.int .u64 x.k1,.int .u64 x.mask],.string s] [.c (.int .u64)] K h:=by
 refine Ce (x.k0,x.k1,x.mask) s ?_;unfold uG af cM zt eW Yp;have k1':=Upd.hnew No h [.int .u64 x.k0,.int .u64 x.k1,.int .u64 x.mask] co;have b1:=cq h [.int .u64 x.k0,.int .u64 x.k1,.int .u64 x.mask] co;simp only[At,cV h];generalize hnew h [.int .u64 x.k0,.int .u64 x.k1,.int .u64 x.mask] co=h1 at k1' b1;refine⟨x.k0,by rw[bX,bX,bq b1];rfl,x.k1,by rw[bX,bX,bq b1];rfl,x.mask,by rw[bX,bq b1];rfl,?_⟩
 refine Xx fun h2 hu=>⟨by rw[bX,bq (hu.get0 b1)];rfl,hk _ (k1'.tr hu)⟩
theorem Eh(x:Hs)(s:ByteArray):0≤fU x s∧fU x s<18446744073709551616:=CS _
end Go.Proofs
namespace Go.Proofs
open Go Go.Lift
abbrev eg(x:ByteArray×ByteArray):List Value:= [.string x.1,.string x.2]
theorem fk(x:ByteArray×ByteArray):(eg x).length=2∧0<2:=⟨rfl,by omega⟩
theorem wB:∀xs:List (ByteArray×ByteArray),cE (xs.flatMap eg)=true
 | []=>rfl
 |x::xs=>by rw[aN];exact lK rfl (wB xs)
theorem KG{h:ae}{vb b o la ca lb cb:Nat}{cv cw:Array Value}{tv tb:TypeId}(hv:h[vb]? =some (.cells cv tv (0,0))) (hb:h[b]? =some (.cells cw tb (0,0))) (hn:vb≠b) (h0:cw.size≠0) {K:Bool→ae→Prop} (hk:K false h):
  HC PG jw [.slice (some ⟨vb,0,none⟩) la ca,.slice (some ⟨b,o,none⟩) lb cb] [.c .bool] K h:=by
 refine⟨fun w hw=>.inr ⟨.bool false,w,?_,Tame.refl w,false,rfl,hw▸hk⟩⟩
 subst hw;rw[sH];have:=Lib.run_overlaps_apart (P:=PG) w cZ wt al (by kernel_rfl) (cz PG al) (rk (by kernel_rfl)) ⟨vb,0,none⟩ ⟨b,o,none⟩ la ca lb cb hn tv tb cv.size cw.size
  (by simp[World.shape?,hv]) (by simp[World.shape?,hb]) h0 (by simp[World.frozen?,hv]) (by simp[World.frozen?,hv])
 rw[show([Value.slice (some ⟨vb,0,none⟩) la ca,Value.slice (some ⟨b,o,none⟩) lb cb]:List Value).toArray= #[.slice (some ⟨vb,0,none⟩) la ca,.slice (some ⟨b,o,none⟩) lb cb]from rfl,this]
 rfl
set_option maxRecDepth 4000 in
theorem O1{M:Nat→Prop}{h:ae}{s:SliceV}{xs:List (ByteArray×ByteArray)}(hs:OwnS eg 2 al M h s xs){k:Nat}(hkl:k≤xs.length)(hn:(xs.length+1)*32≤140737488355328){x:ByteArray×ByteArray}{vb:Nat}(hv:h[vb]? =some (.cells (eg x).toArray al (0,0)))
  (hvM:¬M vb) (hM:∀b,h.size≤b→M b) {K:SliceV→ae→Prop} (hK:∀s' h',OwnS eg 2 al M h' s' (xs.take k++x::xs.drop k)→Upd M h h'→K s' h'):
  HC PG du [.slice s.a s.len s.cap,.int .i64 k,.slice (some ⟨vb,0,none⟩) 1 1] [.c .slice] K h:=by
 refine nH s k ⟨some ⟨vb,0,none⟩,1,1⟩ ?_;unfold iT kZ;have hlen:=hs.len;have hcap:=hs.cap;have hxr:SRow h (some ⟨vb,0,none⟩) (1*2) (eg x):=⟨rfl,.inr ⟨_,rfl,ng hv fun i v hi=>by simpa using hi⟩⟩
 refine⟨by omega,aj.2 ?_⟩;refine CondP.intro (fun e=>?_) fun e=>?_
 ·have e:k=xs.length:=by have:=of_decide_eq_true (by simpa using e:decide ((k:Int)=(s.len:Int))=true);omega
  subst e;refine⟨_,hxr,AppP.own (ys:= [x]) hs rfl (by simp) rfl rfl (by omega) (by simp;omega) (hM _ (aq _)) fun s' h' ho hu=>hK s' h' ?_ hu⟩
  rw[cd,qN];exact ho
 have hlt:k<xs.length:=by
  rcases bT k xs.length with h|h
  ·exact h
  ·have:((k:Int)==(s.len:Int))=true:=by rw[beq_iff_eq];omega
   rw[this]at e;cases e
 rcases hs.blk with h0|⟨b,rest,ha,hb,hc,hr⟩
 ·omega
 have hA:((xs.take k).flatMap eg).length=k*2:=by rw[nE fk,aR,bN hkl]
 have hB:((xs.drop k).flatMap eg).length=(xs.length-k)*2:=by rw[nE fk,aY]
 have hbv:vb≠b:=fun e=>hvM (e▸hb)
 rw[Du (f:=eg) xs k]at hc;have hins:(xs.take k++x::xs.drop k).flatMap eg=(xs.take k).flatMap eg++(eg x++(xs.drop k).flatMap eg):=by rw[bH,aN]
 have hone:=wB (xs.drop k);have hxl:(eg x).length=2:=rfl;have hx1:cE (eg x)=true:=rfl;generalize hAe:(xs.take k).flatMap eg=A at hA hc hins;generalize hBe:(xs.drop k).flatMap eg=B at hB hc hins hone;generalize eg x=X at hxr hxl hv hins hx1;rw[ha];have w1:IntKind.wrap .i64 ((xs.length:Int)+((1:Nat):Int))=((xs.length+1:Nat):Int):=by rw[gD (by omega)];omega
 have w2:IntKind.wrap .i64 ((k:Int)+((1:Nat):Int))=((k+1:Nat):Int):=by rw[gD (by omega)];omega
 have w3:IntKind.wrap .i64 (((xs.length+1:Nat):Int)-(k:Int))=((xs.length+1-k:Nat):Int):=by rw[gD (by omega)];omega
 simp only[w1,w2,w3,aV,hlen];refine az (fun hgt=>?_) fun hle=>?_
 ·
  have hcl:s.cap=xs.length:=by omega
  refine Join.plain ⟨by omega,⟨by omega,by omega,by omega,by omega⟩,fun hin=>?_,fun hout=>?_⟩
  ·omega
  ·refine⟨A,_,?_,rfl,by omega,Go.growslice_fits hout (by omega),fun nc hnc=>?_⟩
   ·rw[sub_zero]
    exact mP hc (by rw[hA];omega) (by simp only[db,fJ];rw[au,←hA,fW (aq _),cd])
   ·simp only[aV]at hnc⊢
    have kn:=Upd.hnew No h (A++eD (xs.length+1-k) [.string (⟨#[]⟩:ByteArray),.string (⟨#[]⟩:ByteArray)]++eD (nc-(k-0+(xs.length+1-k))) [.string (⟨#[]⟩:ByteArray),.string (⟨#[]⟩:ByteArray)]) al;have bn:=cq h (A++eD (xs.length+1-k) [.string (⟨#[]⟩:ByteArray),.string (⟨#[]⟩:ByteArray)]++eD (nc-(k-0+(xs.length+1-k))) [.string (⟨#[]⟩:ByteArray),.string (⟨#[]⟩:ByteArray)]) al
    have hz1:(eD (xs.length+1-k) [.string (⟨#[]⟩:ByteArray),.string (⟨#[]⟩:ByteArray)]).length=(xs.length+1-k)*2:=mJ _ _;have hz2:(eD (nc-(k-0+(xs.length+1-k))) [.string (⟨#[]⟩:ByteArray),.string (⟨#[]⟩:ByteArray)]).length=(nc-(k-0+(xs.length+1-k)))*2:=mJ _ _;have hncl:k-0+(xs.length+1-k)=xs.length+1:=by omega
    rw[cV];have hsz:h.size≠vb:=fun e=>by have:=aZ hv;omega
    have hszb:h.size≠b:=fun e=>by have:=aZ hc;omega
    have hbc:=kn.get0 hc;have hvc:=kn.get0 hv;generalize hnew h _ al=h9 at kn bn hbc hvc;rw[hncl]at hnc hz2⊢;have m1:eB 1 (xs.length+1-k)=1:=bN (by omega);have m2:eB (xs.length-k) (xs.length+1-(k+1))=xs.length-k:=bN (by omega);rw[m1];have xr9:SRow h9 (some ⟨vb,0,none⟩) (1*2) X:=mP hvc (by rw[hxl]) (by rw[db,bD];rw[hxl];omega)
    refine⟨by omega,?_⟩;rw[lG (by omega)];refine l4 xr9 hx1 bn (by simp only[ac,hA,hz1];omega) fun h11 hb11 hu11=>⟨by omega,?_⟩
    simp only[Bd];rw[lG (by omega),lG (by omega),m2];refine⟨by omega,?_⟩;have hbc11:=hu11.get hbc (fun e=>hszb e.symm)
    have br:SRow h11 (some ⟨b,0+k*2,none⟩) ((xs.length-k)*2) B:=mP hbc11 hB (by
     rw[aM,au,←hA,gh,←hB,gP])
    refine l4 br hone hb11 ?_ fun h16 hb16 hu16=>?_
    ·simp only[ac,aR,aY,hA,hz1,hxl];omega
    ·refine hK _ _ ⟨by simp;omega,fk,hnc,.inr ⟨h.size,eD (nc-(xs.length+1)) [.string (⟨#[]⟩:ByteArray),.string (⟨#[]⟩:ByteArray)],rfl,hM _ (aq _),?_,by rw[mJ];rfl⟩⟩ ((kn.wide.trans (M':=(· =h.size)) hu11 fun b hb=>.inl (hb▸hM _ (aq _))).trans (M':=(· =h.size)) hu16 fun b hb=>.inl (hb▸hM _ (aq _)))
     rw[hb16,hins];have:=KV (A:=A) (X:=X) (B:=B) (Z1:=eD (xs.length+1-k) [.string (⟨#[]⟩:ByteArray),.string (⟨#[]⟩:ByteArray)]) (Z2:=eD (nc-(xs.length+1)) [.string (⟨#[]⟩:ByteArray),.string (⟨#[]⟩:ByteArray)]) (r:=(xs.length-k)*2) hA hxl (by rw[hz1,←g9];congr 1;omega);rw[hncl,←this];simp only[aM,g9]
 ·have hcl:xs.length+1≤s.cap:=by omega
  refine⟨by omega,?_⟩;simp only[Bd,fJ];rw[sub_zero,lG (show s.cap≠k+1 by omega),lG (show s.cap≠k by omega)]
  refine⟨by omega,?_⟩;have hrl:2≤rest.length:=by rw[hr];exact qc _ (by omega)
  refine KG hv hc hbv (by rw[dy,ac];omega) ?_;refine ay.2 ⟨by omega,by omega,?_⟩
  have m1:eB 1 (xs.length+1-k)=1:=bN (by omega);have m2:eB (xs.length+1-k) (xs.length+1-(k+1))=xs.length-k:=by
   rw[show xs.length+1-(k+1)=xs.length-k by omega];exact jR (by omega)
  rw[m2];have br:SRow h (some ⟨b,0+k*2,none⟩) ((xs.length-k)*2) B:=mP hc hB (by
   rw[aM,au,←hA,gh,←hB,gP])
  refine l4 br hone hc (by simp only[ac,hA,hB];omega) fun h1 hb1 hu1=>⟨by omega,?_⟩
  rw[m1];have xr1:SRow h1 (some ⟨vb,0,none⟩) (1*2) X:=mP (hu1.get hv hbv) (by rw[hxl]) (by rw[db,bD];rw[hxl];omega);refine l4 xr1 hx1 hb1 (by simp only[ac,aR,aY,hA,hB];omega) fun h2 hb2 hu2=>?_
  refine hK _ _ ⟨by simp;omega,fk,hcl,.inr ⟨b,rest.drop 2,rfl,hb,?_,?_⟩⟩ ((hu1.mono fun _ e=>.inl (e▸hb)).tr (hu2.mono fun _ e=>.inl (e▸hb)))
  ·rw[hb2,hins]
   have:=O3 (A:=A) (X:=X) (B:=B) (R:=rest) (q:=2) (r:=(xs.length-k)*2) hA hB hrl;rw[←this];simp only[aM,g9]
  ·rw[aY,hr]
   simp only;rw[hlen];omega
abbrev rD(x:Option Addr):List Value:= [.pointer x]
theorem rJ(x:Option Addr):(rD x).length=1∧0<1:=⟨rfl,by omega⟩
theorem Fb:∀xs:List (Option Addr),cE (xs.flatMap rD)=true
 | []=>rfl
 |x::xs=>by rw[aN];exact lK rfl (Fb xs)
theorem KH{h:ae}{vb b o la ca lb cb:Nat}{cv cw:Array Value}{tv tb:TypeId}(hv:h[vb]? =some (.cells cv tv (0,0))) (hb:h[b]? =some (.cells cw tb (0,0))) (hn:vb≠b) (h0:cw.size≠0) {K:Bool→ae→Prop} (hk:K false h):
  HC PG iC [.slice (some ⟨vb,0,none⟩) la ca,.slice (some ⟨b,o,none⟩) lb cb] [.c .bool] K h:=by
 refine⟨fun w hw=>.inr ⟨.bool false,w,?_,Tame.refl w,false,rfl,hw▸hk⟩⟩
 subst hw;rw[ry];have:=Lib.run_overlaps_apart (P:=PG) w rF wt bV (by kernel_rfl) (cz PG bV) (rk (by kernel_rfl)) ⟨vb,0,none⟩ ⟨b,o,none⟩ la ca lb cb hn tv tb cv.size cw.size
  (by simp[World.shape?,hv]) (by simp[World.shape?,hb]) h0 (by simp[World.frozen?,hv]) (by simp[World.frozen?,hv])
 rw[show([Value.slice (some ⟨vb,0,none⟩) la ca,Value.slice (some ⟨b,o,none⟩) lb cb]:List Value).toArray= #[.slice (some ⟨vb,0,none⟩) la ca,.slice (some ⟨b,o,none⟩) lb cb]from rfl,this]
 rfl
set_option maxRecDepth 4000 in
theorem O2{M:Nat→Prop}{h:ae}{s:SliceV}{xs:List (Option Addr)}(hs:OwnS rD 1 bV M h s xs){k:Nat}(hkl:k≤xs.length)(hn:(xs.length+1)*8≤140737488355328){x:Option Addr}{vb:Nat}(hv:h[vb]? =some (.cells (rD x).toArray bV (0,0)))
  (hvM:¬M vb) (hM:∀b,h.size≤b→M b) {K:SliceV→ae→Prop} (hK:∀s' h',OwnS rD 1 bV M h' s' (xs.take k++x::xs.drop k)→Upd M h h'→K s' h'):
  HC PG cX [.slice s.a s.len s.cap,.int .i64 k,.slice (some ⟨vb,0,none⟩) 1 1] [.c .slice] K h:=by
 refine l7 s k ⟨some ⟨vb,0,none⟩,1,1⟩ ?_;unfold g6;have hlen:=hs.len;have hcap:=hs.cap;have hxr:SRow h (some ⟨vb,0,none⟩) (1*1) (rD x):=⟨rfl,.inr ⟨_,rfl,ng hv fun i v hi=>by simpa using hi⟩⟩
 refine⟨by omega,aj.2 ?_⟩;refine CondP.intro (fun e=>?_) fun e=>?_
 ·have e:k=xs.length:=by have:=of_decide_eq_true (by simpa using e:decide ((k:Int)=(s.len:Int))=true);omega
  subst e;refine⟨_,hxr,AppP.own (ys:= [x]) hs rfl (by simp) rfl rfl (by omega) (by simp;omega) (hM _ (aq _)) fun s' h' ho hu=>hK s' h' ?_ hu⟩
  rw[cd,qN];exact ho
 have hlt:k<xs.length:=by
  rcases bT k xs.length with h|h
  ·exact h
  ·have:((k:Int)==(s.len:Int))=true:=by rw[beq_iff_eq];omega
   rw[this]at e;cases e
 rcases hs.blk with h0|⟨b,rest,ha,hb,hc,hr⟩
 ·omega
 have hA:((xs.take k).flatMap rD).length=k*1:=by rw[nE rJ,aR,bN hkl]
 have hB:((xs.drop k).flatMap rD).length=(xs.length-k)*1:=by rw[nE rJ,aY]
 have hbv:vb≠b:=fun e=>hvM (e▸hb)
 rw[Du (f:=rD) xs k]at hc;have hins:(xs.take k++x::xs.drop k).flatMap rD=(xs.take k).flatMap rD++(rD x++(xs.drop k).flatMap rD):=by rw[bH,aN]
 have hone:=Fb (xs.drop k);have hxl:(rD x).length=1:=rfl;have hx1:cE (rD x)=true:=rfl;generalize hAe:(xs.take k).flatMap rD=A at hA hc hins;generalize hBe:(xs.drop k).flatMap rD=B at hB hc hins hone;generalize rD x=X at hxr hxl hv hins hx1;rw[ha];have w1:IntKind.wrap .i64 ((xs.length:Int)+((1:Nat):Int))=((xs.length+1:Nat):Int):=by rw[gD (by omega)];omega
 have w2:IntKind.wrap .i64 ((k:Int)+((1:Nat):Int))=((k+1:Nat):Int):=by rw[gD (by omega)];omega
 have w3:IntKind.wrap .i64 (((xs.length+1:Nat):Int)-(k:Int))=((xs.length+1-k:Nat):Int):=by rw[gD (by omega)];omega
 simp only[w1,w2,w3,aV,hlen];refine az (fun hgt=>?_) fun hle=>?_
 ·
  have hcl:s.cap=xs.length:=by omega
  refine Join.plain ⟨by omega,⟨by omega,by omega,by omega,by omega⟩,fun hin=>?_,fun hout=>?_⟩
  ·omega
  ·refine⟨A,_,?_,rfl,by omega,Go.growslice_fits hout (by omega),fun nc hnc=>?_⟩
   ·rw[sub_zero]
    exact mP hc (by rw[hA];omega) (by simp only[db,fJ];rw[au,←hA,fW (aq _),cd])
   ·simp only[aV]at hnc⊢
    have kn:=Upd.hnew No h (A++eD (xs.length+1-k) [.pointer none]++eD (nc-(k-0+(xs.length+1-k))) [.pointer none]) bV;have bn:=cq h (A++eD (xs.length+1-k) [.pointer none]++eD (nc-(k-0+(xs.length+1-k))) [.pointer none]) bV;have hz1:(eD (xs.length+1-k) [.pointer none]).length=(xs.length+1-k)*1:=mJ _ _;have hz2:(eD (nc-(k-0+(xs.length+1-k))) [.pointer none]).length=(nc-(k-0+(xs.length+1-k)))*1:=mJ _ _
    have hncl:k-0+(xs.length+1-k)=xs.length+1:=by omega
    rw[cV];have hsz:h.size≠vb:=fun e=>by have:=aZ hv;omega
    have hszb:h.size≠b:=fun e=>by have:=aZ hc;omega
    have hbc:=kn.get0 hc;have hvc:=kn.get0 hv;generalize hnew h _ bV=h9 at kn bn hbc hvc;rw[hncl]at hnc hz2⊢;have m1:eB 1 (xs.length+1-k)=1:=bN (by omega);have m2:eB (xs.length-k) (xs.length+1-(k+1))=xs.length-k:=bN (by omega);rw[m1];have xr9:SRow h9 (some ⟨vb,0,none⟩) (1*1) X:=mP hvc (by rw[hxl]) (by rw[db,bD];rw[hxl];omega)
    refine⟨by omega,?_⟩;rw[lG (by omega)];refine l4 xr9 hx1 bn (by simp only[ac,hA,hz1];omega) fun h11 hb11 hu11=>⟨by omega,?_⟩
    simp only[Bd];rw[lG (by omega),lG (by omega),m2];refine⟨by omega,?_⟩;have hbc11:=hu11.get hbc (fun e=>hszb e.symm)
    have br:SRow h11 (some ⟨b,0+k*1,none⟩) ((xs.length-k)*1) B:=mP hbc11 hB (by
     rw[aM,au,←hA,gh,←hB,gP])
    refine l4 br hone hb11 ?_ fun h16 hb16 hu16=>?_
    ·simp only[ac,aR,aY,hA,hz1,hxl];omega
    ·refine hK _ _ ⟨by simp;omega,rJ,hnc,.inr ⟨h.size,eD (nc-(xs.length+1)) [.pointer none],rfl,hM _ (aq _),?_,by rw[mJ];rfl⟩⟩ ((kn.wide.trans (M':=(· =h.size)) hu11 fun b hb=>.inl (hb▸hM _ (aq _))).trans (M':=(· =h.size)) hu16 fun b hb=>.inl (hb▸hM _ (aq _)))
     rw[hb16,hins];have:=KV (A:=A) (X:=X) (B:=B) (Z1:=eD (xs.length+1-k) [.pointer none]) (Z2:=eD (nc-(xs.length+1)) [.pointer none]) (r:=(xs.length-k)*1) hA hxl (by rw[hz1,←g9];congr 1;omega);rw[hncl,←this];simp only[aM,g9]
 ·have hcl:xs.length+1≤s.cap:=by omega
  refine⟨by omega,?_⟩;simp only[Bd,fJ];rw[sub_zero,lG (show s.cap≠k+1 by omega),lG (show s.cap≠k by omega)]
  refine⟨by omega,?_⟩;have hrl:1≤rest.length:=by rw[hr];exact qc _ (by omega)
  refine KH hv hc hbv (by rw[dy,ac];omega) ?_;refine ay.2 ⟨by omega,by omega,?_⟩
  have m1:eB 1 (xs.length+1-k)=1:=bN (by omega);have m2:eB (xs.length+1-k) (xs.length+1-(k+1))=xs.length-k:=by
   rw[show xs.length+1-(k+1)=xs.length-k by omega];exact jR (by omega)
  rw[m2];have br:SRow h (some ⟨b,0+k*1,none⟩) ((xs.length-k)*1) B:=mP hc hB (by
   rw[aM,au,←hA,gh,←hB,gP])
  refine l4 br hone hc (by simp only[ac,hA,hB];omega) fun h1 hb1 hu1=>⟨by omega,?_⟩
  rw[m1];have xr1:SRow h1 (some ⟨vb,0,none⟩) (1*1) X:=mP (hu1.get hv hbv) (by rw[hxl]) (by rw[db,bD];rw[hxl];omega);refine l4 xr1 hx1 hb1 (by simp only[ac,aR,aY,hA,hB];omega) fun h2 hb2 hu2=>?_
  refine hK _ _ ⟨by simp;omega,rJ,hcl,.inr ⟨b,rest.drop 1,rfl,hb,?_,?_⟩⟩ ((hu1.mono fun _ e=>.inl (e▸hb)).tr (hu2.mono fun _ e=>.inl (e▸hb)))
  ·rw[hb2,hins]
   have:=O3 (A:=A) (X:=X) (B:=B) (R:=rest) (q:=1) (r:=(xs.length-k)*1) hA hB hrl;rw[←this];simp only[aM,g9]
  ·rw[aY,hr]
   simp only;rw[hlen];omega
abbrev ua(x:Option Addr):List Value:= [.pointer x]
theorem rH(x:Option Addr):(ua x).length=1∧0<1:=⟨rfl,by omega⟩
theorem KI:∀xs:List (Option Addr),cE (xs.flatMap ua)=true
 | []=>rfl
 |x::xs=>by rw[aN];exact lK rfl (KI xs)
theorem KF{h:ae}{vb b o la ca lb cb:Nat}{cv cw:Array Value}{tv tb:TypeId}(hv:h[vb]? =some (.cells cv tv (0,0))) (hb:h[b]? =some (.cells cw tb (0,0))) (hn:vb≠b) (h0:cw.size≠0) {K:Bool→ae→Prop} (hk:K false h):
  HC PG il [.slice (some ⟨vb,0,none⟩) la ca,.slice (some ⟨b,o,none⟩) lb cb] [.c .bool] K h:=by
 refine⟨fun w hw=>.inr ⟨.bool false,w,?_,Tame.refl w,false,rfl,hw▸hk⟩⟩
 subst hw;rw[qG];have:=Lib.run_overlaps_apart (P:=PG) w qw wt cf (by kernel_rfl) (cz PG cf) (rk (by kernel_rfl)) ⟨vb,0,none⟩ ⟨b,o,none⟩ la ca lb cb hn tv tb cv.size cw.size
  (by simp[World.shape?,hv]) (by simp[World.shape?,hb]) h0 (by simp[World.frozen?,hv]) (by simp[World.frozen?,hv])
 rw[show([Value.slice (some ⟨vb,0,none⟩) la ca,Value.slice (some ⟨b,o,none⟩) lb cb]:List Value).toArray= #[.slice (some ⟨vb,0,none⟩) la ca,.slice (some ⟨b,o,none⟩) lb cb]from rfl,this]
 rfl
set_option maxRecDepth 4000 in
theorem O0{M:Nat→Prop}{h:ae}{s:SliceV}{xs:List (Option Addr)}(hs:OwnS ua 1 cf M h s xs){k:Nat}(hkl:k≤xs.length)(hn:(xs.length+1)*8≤140737488355328){x:Option Addr}{vb:Nat}(hv:h[vb]? =some (.cells (ua x).toArray cf (0,0)))
  (hvM:¬M vb) (hM:∀b,h.size≤b→M b) {K:SliceV→ae→Prop} (hK:∀s' h',OwnS ua 1 cf M h' s' (xs.take k++x::xs.drop k)→Upd M h h'→K s' h'):
  HC PG eP [.slice s.a s.len s.cap,.int .i64 k,.slice (some ⟨vb,0,none⟩) 1 1] [.c .slice] K h:=by
 refine lr s k ⟨some ⟨vb,0,none⟩,1,1⟩ ?_;unfold gI;have hlen:=hs.len;have hcap:=hs.cap;have hxr:SRow h (some ⟨vb,0,none⟩) (1*1) (ua x):=⟨rfl,.inr ⟨_,rfl,ng hv fun i v hi=>by simpa using hi⟩⟩
 refine⟨by omega,aj.2 ?_⟩;refine CondP.intro (fun e=>?_) fun e=>?_
 ·have e:k=xs.length:=by have:=of_decide_eq_true (by simpa using e:decide ((k:Int)=(s.len:Int))=true);omega
  subst e;refine⟨_,hxr,AppP.own (ys:= [x]) hs rfl (by simp) rfl rfl (by omega) (by simp;omega) (hM _ (aq _)) fun s' h' ho hu=>hK s' h' ?_ hu⟩
  rw[cd,qN];exact ho
 have hlt:k<xs.length:=by
  rcases bT k xs.length with h|h
  ·exact h
  ·have:((k:Int)==(s.len:Int))=true:=by rw[beq_iff_eq];omega
   rw[this]at e;cases e
 rcases hs.blk with h0|⟨b,rest,ha,hb,hc,hr⟩
 ·omega
 have hA:((xs.take k).flatMap ua).length=k*1:=by rw[nE rH,aR,bN hkl]
 have hB:((xs.drop k).flatMap ua).length=(xs.length-k)*1:=by rw[nE rH,aY]
 have hbv:vb≠b:=fun e=>hvM (e▸hb)
 rw[Du (f:=ua) xs k]at hc;have hins:(xs.take k++x::xs.drop k).flatMap ua=(xs.take k).flatMap ua++(ua x++(xs.drop k).flatMap ua):=by rw[bH,aN]
 have hone:=KI (xs.drop k);have hxl:(ua x).length=1:=rfl;have hx1:cE (ua x)=true:=rfl;generalize hAe:(xs.take k).flatMap ua=A at hA hc hins;generalize hBe:(xs.drop k).flatMap ua=B at hB hc hins hone;generalize ua x=X at hxr hxl hv hins hx1;rw[ha];have w1:IntKind.wrap .i64 ((xs.length:Int)+((1:Nat):Int))=((xs.length+1:Nat):Int):=by rw[gD (by omega)];omega
 have w2:IntKind.wrap .i64 ((k:Int)+((1:Nat):Int))=((k+1:Nat):Int):=by rw[gD (by omega)];omega
 have w3:IntKind.wrap .i64 (((xs.length+1:Nat):Int)-(k:Int))=((xs.length+1-k:Nat):Int):=by rw[gD (by omega)];omega
 simp only[w1,w2,w3,aV,hlen];refine az (fun hgt=>?_) fun hle=>?_
 ·
  have hcl:s.cap=xs.length:=by omega
  refine Join.plain ⟨by omega,⟨by omega,by omega,by omega,by omega⟩,fun hin=>?_,fun hout=>?_⟩
  ·omega
  ·refine⟨A,_,?_,rfl,by omega,Go.growslice_fits hout (by omega),fun nc hnc=>?_⟩
   ·rw[sub_zero]
    exact mP hc (by rw[hA];omega) (by simp only[db,fJ];rw[au,←hA,fW (aq _),cd])
   ·simp only[aV]at hnc⊢
    have kn:=Upd.hnew No h (A++eD (xs.length+1-k) [.pointer none]++eD (nc-(k-0+(xs.length+1-k))) [.pointer none]) cf;have bn:=cq h (A++eD (xs.length+1-k) [.pointer none]++eD (nc-(k-0+(xs.length+1-k))) [.pointer none]) cf;have hz1:(eD (xs.length+1-k) [.pointer none]).length=(xs.length+1-k)*1:=mJ _ _;have hz2:(eD (nc-(k-0+(xs.length+1-k))) [.pointer none]).length=(nc-(k-0+(xs.length+1-k)))*1:=mJ _ _
    have hncl:k-0+(xs.length+1-k)=xs.length+1:=by omega
    rw[cV];have hsz:h.size≠vb:=fun e=>by have:=aZ hv;omega
    have hszb:h.size≠b:=fun e=>by have:=aZ hc;omega
    have hbc:=kn.get0 hc;have hvc:=kn.get0 hv;generalize hnew h _ cf=h9 at kn bn hbc hvc;rw[hncl]at hnc hz2⊢;have m1:eB 1 (xs.length+1-k)=1:=bN (by omega);have m2:eB (xs.length-k) (xs.length+1-(k+1))=xs.length-k:=bN (by omega);rw[m1];have xr9:SRow h9 (some ⟨vb,0,none⟩) (1*1) X:=mP hvc (by rw[hxl]) (by rw[db,bD];rw[hxl];omega)
    refine⟨by omega,?_⟩;rw[lG (by omega)];refine l4 xr9 hx1 bn (by simp only[ac,hA,hz1];omega) fun h11 hb11 hu11=>⟨by omega,?_⟩
    simp only[Bd];rw[lG (by omega),lG (by omega),m2];refine⟨by omega,?_⟩;have hbc11:=hu11.get hbc (fun e=>hszb e.symm)
    have br:SRow h11 (some ⟨b,0+k*1,none⟩) ((xs.length-k)*1) B:=mP hbc11 hB (by
     rw[aM,au,←hA,gh,←hB,gP])
    refine l4 br hone hb11 ?_ fun h16 hb16 hu16=>?_
    ·simp only[ac,aR,aY,hA,hz1,hxl];omega
    ·refine hK _ _ ⟨by simp;omega,rH,hnc,.inr ⟨h.size,eD (nc-(xs.length+1)) [.pointer none],rfl,hM _ (aq _),?_,by rw[mJ];rfl⟩⟩ ((kn.wide.trans (M':=(· =h.size)) hu11 fun b hb=>.inl (hb▸hM _ (aq _))).trans (M':=(· =h.size)) hu16 fun b hb=>.inl (hb▸hM _ (aq _)))
     rw[hb16,hins];have:=KV (A:=A) (X:=X) (B:=B) (Z1:=eD (xs.length+1-k) [.pointer none]) (Z2:=eD (nc-(xs.length+1)) [.pointer none]) (r:=(xs.length-k)*1) hA hxl (by rw[hz1,←g9];congr 1;omega);rw[hncl,←this];simp only[aM,g9]
 ·have hcl:xs.length+1≤s.cap:=by omega
  refine⟨by omega,?_⟩;simp only[Bd,fJ];rw[sub_zero,lG (show s.cap≠k+1 by omega),lG (show s.cap≠k by omega)]
  refine⟨by omega,?_⟩;have hrl:1≤rest.length:=by rw[hr];exact qc _ (by omega)
  refine KF hv hc hbv (by rw[dy,ac];omega) ?_;refine ay.2 ⟨by omega,by omega,?_⟩
  have m1:eB 1 (xs.length+1-k)=1:=bN (by omega);have m2:eB (xs.length+1-k) (xs.length+1-(k+1))=xs.length-k:=by
   rw[show xs.length+1-(k+1)=xs.length-k by omega];exact jR (by omega)
  rw[m2];have br:SRow h (some ⟨b,0+k*1,none⟩) ((xs.length-k)*1) B:=mP hc hB (by
   rw[aM,au,←hA,gh,←hB,gP])
  refine l4 br hone hc (by simp only[ac,hA,hB];omega) fun h1 hb1 hu1=>⟨by omega,?_⟩
  rw[m1];have xr1:SRow h1 (some ⟨vb,0,none⟩) (1*1) X:=mP (hu1.get hv hbv) (by rw[hxl]) (by rw[db,bD];rw[hxl];omega);refine l4 xr1 hx1 hb1 (by simp only[ac,aR,aY,hA,hB];omega) fun h2 hb2 hu2=>?_
  refine hK _ _ ⟨by simp;omega,rH,hcl,.inr ⟨b,rest.drop 1,rfl,hb,?_,?_⟩⟩ ((hu1.mono fun _ e=>.inl (e▸hb)).tr (hu2.mono fun _ e=>.inl (e▸hb)))
  ·rw[hb2,hins]
   have:=O3 (A:=A) (X:=X) (B:=B) (R:=rest) (q:=1) (r:=(xs.length-k)*1) hA hB hrl;rw[←this];simp only[aM,g9]
  ·rw[aY,hr]
   simp only;rw[hlen];omega
end Go.Proofs
namespace Go.Proofs
open Go Go.Lift
theorem yS{W:Nat→Prop}{h:ae}{s:SliceV}{xs:List (ByteArray×ByteArray)}(h1:Sl eg 2 W h s xs)(hn:xs.length*32≤140737488355328){K:SliceV→ae→Prop}
  (hk:∀s' h',OwnS eg 2 al (fun b=>h.size≤b) h' s' xs→Upd No h h'→K s' h'):HC PG dB [.slice s.a s.len s.cap] [.c .slice] K h:=by
 refine oa s ?_;unfold jp kZ;refine CondP.intro (fun he=>?_) (fun hne=>?_)
 ·have he:s.a=none:=by simpa using he
  have hx:xs= []:=by
   by_cases hx:xs= []
   ·exact hx
   ·obtain⟨a,ha,_⟩:=h1.row hx
    rw[he]at ha;cases ha
  subst hx;exact hk _ _ (OwnS.nil fk) (Upd.refl _ _)
 ·have h2:=h1.upd (Upd.hnew No h [] al) (fun _ h=>h.elim)
  refine⟨_,h2.srow,?_⟩;refine AppP.own (f:=eg) (M:=fun b=>h.size≤b) (xs:= []) (ys:=xs) ⟨rfl,fk,aq _,.inl rfl⟩ h1.len rfl (wB xs) rfl (by omega) (by simpa using hn) (by rw[iM];omega) fun s' h' ho hu=>?_
  exact hk _ _ ho ((Upd.hnew No h [] al).trans hu fun b hb=>.inr hb)
theorem Pg{M:Nat→Prop}{h:ae}{s:SliceV}{xs:List (ByteArray×ByteArray)}(hs:OwnS eg 2 al M h s xs){k:Nat}(hkl:k<xs.length)(hn:xs.length≤4398046511104)
  {K:SliceV→ae→Prop}(hK:∀s' h',OwnS eg 2 al M h' s' (xs.take k++xs.drop (k+1))→Upd M h h'→K s' h'):
  HC PG fH [.slice s.a s.len s.cap,.int .i64 k,.int .i64 ((k+1:Nat):Int)] [.c .slice] K h:=by
 refine nI s k ((k+1:Nat):Int) ?_;unfold iU kZ;have hlen:=hs.len;have hcap:=hs.cap;rcases hs.blk with h0|⟨b,rest,ha,hb,hc,hr⟩
 ·omega
 have hA:((xs.take k).flatMap eg).length=k*2:=by rw[nE fk,aR,bN (by omega)]
 have hB:((xs.drop (k+1)).flatMap eg).length=(xs.length-(k+1))*2:=by rw[nE fk,aY]
 have e1:xs.flatMap eg=(xs.take k).flatMap eg++(eg xs[k]++(xs.drop (k+1)).flatMap eg):=by
  rw[←aN,←fQ hkl];exact Du xs k
 rw[e1]at hc;have hone:=wB (xs.drop (k+1));have hins:(xs.take k++xs.drop (k+1)).flatMap eg=(xs.take k).flatMap eg++(xs.drop (k+1)).flatMap eg:=bH;have hX:(eg xs[k]).length=2:=rfl;generalize (xs.take k).flatMap eg=A at hA hc hins;generalize (xs.drop (k+1)).flatMap eg=B at hB hc hone hins;generalize eg xs[k]=X at hX hc;rw[ha];simp only[hlen,aV];refine⟨by omega,by omega,by omega,CondP.intro (fun e=>?_) fun _=>?_⟩
 ·have:(k:Int)=((k+1:Nat):Int):=by simpa using e
  omega
 refine Join.plain ⟨by omega,by omega,B,?_,?_⟩
 ·by_cases hlast:xs.length=k+1
  ·exact⟨hB,.inl (aA.1 (by rw[hB,hlast,gj,w7]))⟩
  rw[lG (by omega)];refine mP hc hB ?_;have:(A++X).length=0+(k+1)*2:=by rw[ac];omega
  rw[show A++(X++B)++rest=(A++X)++(B++rest) by simp only[au],dz this,eC hB]
 ·rw[sub_zero]
  refine U3 hc (by simp only[ac];omega) (by omega) hone fun h1 hb1 hu1=>?_
  have hr':rest.length=(s.cap-xs.length)*2:=by rw[hr,hlen]
  refine⟨by dsimp only;omega,by dsimp only;omega,?_⟩
  simp only[Bd];rw[lG (by omega)];have en:xs.length-(k-0+(xs.length-(k+1)))=1:=by omega
  have hd1:(A++(X++B)++rest).drop ((k-0)*2+B.length)=(X++B).drop B.length++rest:=by
   rw[au,←eK,dz (show A.length=(k-0)*2 by rw[hA,fJ]),iG (by rw[ac];omega)]
  have ht1:(A++(X++B)++rest).take ((k-0)*2)=A:=by rw[au,eC (show A.length=(k-0)*2 by rw[hA,fJ])]
  rw[hd1,ht1]at hb1;have hdl:((X++B).drop B.length).length=2:=by rw[aY,ac];omega
  generalize (X++B).drop B.length=D at hdl hb1;rw[en];have hz:(eD 1 [.string (⟨#[]⟩:ByteArray),.string (⟨#[]⟩:ByteArray)]).length=2:=rfl;have hAB:(A++B).length=0+(k-0+(xs.length-(k+1)))*2:=by rw[ac,hA,hB];omega
  refine QD hb1 (by simp only[ac]at hAB⊢;omega) fun h2 hb2 hu2=>?_
  rw[eC hAB,←eK,dz hAB]at hb2;refine hK _ _ ⟨by simp;omega,fk,by simp only;omega,.inr ⟨b,eD 1 [.string (⟨#[]⟩:ByteArray),.string (⟨#[]⟩:ByteArray)]++(D++rest).drop (eD 1 [.string (⟨#[]⟩:ByteArray),.string (⟨#[]⟩:ByteArray)]).length,rfl,hb,?_,?_⟩⟩ ((hu1.mono fun _ e=>.inl (e▸hb)).tr (hu2.mono fun _ e=>.inl (e▸hb)))
  ·rw[hb2,hins];simp only[au]
  ·simp only[ac,aY,hz,hdl,hr']
   omega
theorem Dw{W:Nat→Prop}{h:ae}{s:SliceV}{xs:List (Option Addr)}(h1:Sl rD 1 W h s xs)(hn:xs.length*8≤140737488355328){K:SliceV→ae→Prop}
  (hk:∀s' h',OwnS rD 1 bV (fun b=>h.size≤b) h' s' xs→Upd No h h'→K s' h'):HC PG dT [.slice s.a s.len s.cap] [.c .slice] K h:=by
 refine mp s ?_;unfold hP;refine CondP.intro (fun he=>?_) (fun hne=>?_)
 ·have he:s.a=none:=by simpa using he
  have hx:xs= []:=by
   by_cases hx:xs= []
   ·exact hx
   ·obtain⟨a,ha,_⟩:=h1.row hx
    rw[he]at ha;cases ha
  subst hx;exact hk _ _ (OwnS.nil rJ) (Upd.refl _ _)
 ·have h2:=h1.upd (Upd.hnew No h [] bV) (fun _ h=>h.elim)
  refine⟨_,h2.srow,?_⟩;refine AppP.own (f:=rD) (M:=fun b=>h.size≤b) (xs:= []) (ys:=xs) ⟨rfl,rJ,aq _,.inl rfl⟩ h1.len rfl (Fb xs) rfl (by omega) (by simpa using hn) (by rw[iM];omega) fun s' h' ho hu=>?_
  exact hk _ _ ho ((Upd.hnew No h [] bV).trans hu fun b hb=>.inr hb)
theorem Ph{M:Nat→Prop}{h:ae}{s:SliceV}{xs:List (Option Addr)}(hs:OwnS rD 1 bV M h s xs){k:Nat}(hkl:k<xs.length)(hn:xs.length≤4398046511104)
  {K:SliceV→ae→Prop}(hK:∀s' h',OwnS rD 1 bV M h' s' (xs.take k++xs.drop (k+1))→Upd M h h'→K s' h'):
  HC PG eY [.slice s.a s.len s.cap,.int .i64 k,.int .i64 ((k+1:Nat):Int)] [.c .slice] K h:=by
 refine l8 s k ((k+1:Nat):Int) ?_;unfold g7;have hlen:=hs.len;have hcap:=hs.cap;rcases hs.blk with h0|⟨b,rest,ha,hb,hc,hr⟩
 ·omega
 have hA:((xs.take k).flatMap rD).length=k*1:=by rw[nE rJ,aR,bN (by omega)]
 have hB:((xs.drop (k+1)).flatMap rD).length=(xs.length-(k+1))*1:=by rw[nE rJ,aY]
 have e1:xs.flatMap rD=(xs.take k).flatMap rD++(rD xs[k]++(xs.drop (k+1)).flatMap rD):=by
  rw[←aN,←fQ hkl];exact Du xs k
 rw[e1]at hc;have hone:=Fb (xs.drop (k+1));have hins:(xs.take k++xs.drop (k+1)).flatMap rD=(xs.take k).flatMap rD++(xs.drop (k+1)).flatMap rD:=bH;have hX:(rD xs[k]).length=1:=rfl;generalize (xs.take k).flatMap rD=A at hA hc hins;generalize (xs.drop (k+1)).flatMap rD=B at hB hc hone hins;generalize rD xs[k]=X at hX hc;rw[ha];simp only[hlen,aV];refine⟨by omega,by omega,by omega,CondP.intro (fun e=>?_) fun _=>?_⟩
 ·have:(k:Int)=((k+1:Nat):Int):=by simpa using e
  omega
 refine Join.plain ⟨by omega,by omega,B,?_,?_⟩
 ·by_cases hlast:xs.length=k+1
  ·exact⟨hB,.inl (aA.1 (by rw[hB,hlast,gj,w7]))⟩
  rw[lG (by omega)];refine mP hc hB ?_;have:(A++X).length=0+(k+1)*1:=by rw[ac];omega
  rw[show A++(X++B)++rest=(A++X)++(B++rest) by simp only[au],dz this,eC hB]
 ·rw[sub_zero]
  refine U3 hc (by simp only[ac];omega) (by omega) hone fun h1 hb1 hu1=>?_
  have hr':rest.length=(s.cap-xs.length)*1:=by rw[hr,hlen]
  refine⟨by dsimp only;omega,by dsimp only;omega,?_⟩
  simp only[Bd];rw[lG (by omega)];have en:xs.length-(k-0+(xs.length-(k+1)))=1:=by omega
  have hd1:(A++(X++B)++rest).drop ((k-0)*1+B.length)=(X++B).drop B.length++rest:=by
   rw[au,←eK,dz (show A.length=(k-0)*1 by rw[hA,fJ]),iG (by rw[ac];omega)]
  have ht1:(A++(X++B)++rest).take ((k-0)*1)=A:=by rw[au,eC (show A.length=(k-0)*1 by rw[hA,fJ])]
  rw[hd1,ht1]at hb1;have hdl:((X++B).drop B.length).length=1:=by rw[aY,ac];omega
  generalize (X++B).drop B.length=D at hdl hb1;rw[en];have hz:(eD 1 [.pointer none]).length=1:=rfl;have hAB:(A++B).length=0+(k-0+(xs.length-(k+1)))*1:=by rw[ac,hA,hB];omega
  refine QD hb1 (by simp only[ac]at hAB⊢;omega) fun h2 hb2 hu2=>?_
  rw[eC hAB,←eK,dz hAB]at hb2;refine hK _ _ ⟨by simp;omega,rJ,by simp only;omega,.inr ⟨b,eD 1 [.pointer none]++(D++rest).drop (eD 1 [.pointer none]).length,rfl,hb,?_,?_⟩⟩ ((hu1.mono fun _ e=>.inl (e▸hb)).tr (hu2.mono fun _ e=>.inl (e▸hb)))
  ·rw[hb2,hins];simp only[au]
  ·simp only[ac,aY,hz,hdl,hr']
   omega
theorem JP{W:Nat→Prop}{h:ae}{s:SliceV}{xs:List (Option Addr)}(h1:Sl ua 1 W h s xs)(hn:xs.length*8≤140737488355328){K:SliceV→ae→Prop}
  (hk:∀s' h',OwnS ua 1 cf (fun b=>h.size≤b) h' s' xs→Upd No h h'→K s' h'):HC PG dE [.slice s.a s.len s.cap] [.c .slice] K h:=by
 refine lS s ?_;unfold gO;refine CondP.intro (fun he=>?_) (fun hne=>?_)
 ·have he:s.a=none:=by simpa using he
  have hx:xs= []:=by
   by_cases hx:xs= []
   ·exact hx
   ·obtain⟨a,ha,_⟩:=h1.row hx
    rw[he]at ha;cases ha
  subst hx;exact hk _ _ (OwnS.nil rH) (Upd.refl _ _)
 ·have h2:=h1.upd (Upd.hnew No h [] cf) (fun _ h=>h.elim)
  refine⟨_,h2.srow,?_⟩;refine AppP.own (f:=ua) (M:=fun b=>h.size≤b) (xs:= []) (ys:=xs) ⟨rfl,rH,aq _,.inl rfl⟩ h1.len rfl (KI xs) rfl (by omega) (by simpa using hn) (by rw[iM];omega) fun s' h' ho hu=>?_
  exact hk _ _ ho ((Upd.hnew No h [] cf).trans hu fun b hb=>.inr hb)
end Go.Proofs
