/- A part of the proof that the named laws of this program answer true, whatever the input. -/
import Derived.Test.YtncppacbfagpgaaGreatDoorTreeF0
import Derived.Test.YtncppacbfagpgaaGreatDoorTreeF1
import Derived.Test.YtncppacbfagpgaaGreatDoorTreeF2
import Derived.Test.YtncppacbfagpgaaGreatDoorTreeF3
import Derived.Test.YtncppacbfagpgaaGreatDoorLaw0
import Derived.Test.YtncppacbfagpgaaGreatDoorLift3
import Derived.Lib.Overlaps
open BitVec renaming ofInt→ao
open ByteArray renaming size_extract→gC
open Int renaming toNat_natCast→aU
open List renaming mem_cons_self→au,mem_cons_of_mem→aE,mem_cons→aC,pairwise_cons→aF,append_eq_nil_iff→kN,mem_singleton→aD,append_nil→aL,append_assoc→aq,append_cancel_left→fg,length→fP,length_append→ac,getElem_of_mem→bQ,length_take→aQ,length_drop→aV,take_append_drop→aO,pairwise_append→cx,getElem_mem→bh,mem_of_getElem→qe,pairwise_iff_getElem→cn,take_succ_cons→eo,drop_succ_cons→iT,flatMap_cons→aN,take_length→ce,drop_length→uc,flatMap_append→bI,drop_zero→cW,take_append_of_le_length→gP,take_of_length_le→bD,drop_left→gi,take_left→g7,size_toArray→dD
open Nat renaming lt_or_ge→bR,zero_add→aR,le_refl→aj,min_eq_left→bH,sub_zero→fz,min→eX,add_one_mul→jc,one_mul→uP,le_mul_of_pos_left→sN,min_eq_right→il
open Option renaming isSome_iff_exists→jH,some→bO
open UInt8 renaming toNat_inj→nR
namespace Go.Proofs
inductive Fo where
 |nil:Fo
 |cons (lab:List UInt8) (val:Option ByteArray) (kids rest:Fo):Fo
abbrev Bn:=List UInt8×Option ByteArray×Fo
def Fo.toL:Fo→List Bn
 | .nil=> []
 | .cons lab w kids rest=>(lab,w,kids)::rest.toL
theorem Fo.toL_cons(lab:List UInt8)(w:Option ByteArray)(a b:Fo):(Fo.cons lab w a b).toL=(lab,w,a)::b.toL:=rfl
def Fo.ofL:List Bn→Fo
 | []=>.nil
 |(lab,w,kids)::l=>.cons lab w kids (Fo.ofL l)
theorem Fo.to_of:∀l:List Bn,(Fo.ofL l).toL=l
 | []=>rfl
 |(_,_,_)::l=>by show _::(Fo.ofL l).toL=_;rw[Fo.to_of l]
theorem Fo.of_to:∀F:Fo,Fo.ofL F.toL=F
 | .nil=>rfl
 | .cons lab w kids rest=>by show Fo.cons lab w kids (Fo.ofL rest.toL)=_;rw[Fo.of_to rest]
def tg:Fo→List UInt8→ByteArray→Prop
 | .nil,_,_=>False
 | .cons lab w kids rest,k,v=>(∃r,k=lab++r∧((r= []∧w=some v)∨tg kids r v))∨tg rest k v
def uQ(w:Option ByteArray)(F:Fo)(k:List UInt8)(v:ByteArray):Prop:=(k= []∧w=some v)∨tg F k v
def wO(n:Bn)(k:List UInt8)(v:ByteArray):Prop:=∃r,k=n.1++r∧uQ n.2.1 n.2.2 r v
theorem gM:∀{F:Fo} {k:List UInt8} {v:ByteArray},tg F k v↔∃n∈F.toL,wO n k v
 | .nil,_,_=>by simp[tg,Fo.toL]
 | .cons lab w kids rest,k,v=>by
  rw[Fo.toL_cons];unfold tg;rw[gM (F:=rest)];constructor
  ·rintro(h|⟨n,a,h⟩)
   ·exact⟨_,au ..,h⟩
   ·exact⟨n,aE _ a,h⟩
  ·rintro⟨n,a,h⟩
   rcases aC.1 a with rfl|a
   ·exact .inl h
   ·exact .inr ⟨n,a,h⟩
def hd(k:List UInt8):Nat:=(k.headD 0).toNat
theorem pZ{a b:List UInt8}(h:a≠[]):hd (a++b)=hd a:=by
 cases a with
 |nil=>exact absurd rfl h
 |cons x a=>rfl
theorem aa3(a:List UInt8):hd a<256:=UInt8.toNat_lt _
def gf:Fo→Prop
 | .nil=>True
 | .cons lab w kids rest=>lab≠[]∧(w.isSome∨2≤kids.toL.length)∧gf kids∧(∀n∈rest.toL,hd lab<hd n.1)∧gf rest
def Q9(n:Bn):Prop:=n.1≠[]∧(n.2.1.isSome∨2≤n.2.2.toL.length)∧gf n.2.2
theorem eP:∀{F:Fo},gf F↔F.toL.Pairwise (fun m n=>hd m.1<hd n.1)∧∀n∈F.toL,Q9 n
 | .nil=>by simp[gf,Fo.toL]
 | .cons lab w kids rest=>by
  rw[Fo.toL_cons,aF];show(lab≠[]∧(w.isSome∨2≤kids.toL.length)∧gf kids∧(∀n∈rest.toL,hd lab<hd n.1)∧gf rest)↔_
  rw[eP (F:=rest)];constructor
  ·rintro⟨e,h2,f,c,d,b⟩
   refine⟨⟨c,d⟩,fun n a=>?_⟩
   rcases aC.1 a with rfl|a
   ·exact⟨e,h2,f⟩
   ·exact b n a
  ·rintro⟨⟨c,d⟩,b⟩
   have:=b _ (au ..);exact⟨this.1,this.2.1,this.2.2,c,d,fun n a=>b n (aE _ a)⟩
theorem pf:∀{F:Fo},gf F→∀n∈F.toL,∃r v,uQ n.2.1 n.2.2 r v
 | .nil,_,n,a=>by simp[Fo.toL]at a
 | .cons lab w kids rest,h,n,a=>by
  rcases aC.1 a with rfl|a
  ·rcases h.2.1 with d|b
   ·obtain⟨v,hv⟩:=jH.1 d
    exact⟨[],v,.inl ⟨rfl,hv⟩⟩
   ·have e:=pf h.2.2.1
    have⟨m,hm⟩:∃m,m∈kids.toL:=by
     cases hl:kids.toL with
     |nil=>rw[hl]at b;simp at b
     |cons m l=>exact⟨m,au ..⟩
    obtain⟨r,v,c⟩:=e m hm;exact⟨m.1++r,v,.inr (gM.2 ⟨m,hm,r,rfl,c⟩)⟩
  ·exact pf h.2.2.2.2 n a
theorem qR{F:Fo}(h:gf F){k:List UInt8}{v:ByteArray}(hi:tg F k v):k≠[]:=by
 obtain⟨n,a,r,rfl,_⟩:=gM.1 hi;have:=((eP.1 h).2 n a).1;intro e;exact this (kN.1 e).1
theorem tJ{F:Fo}(h:gf F){k:List UInt8}{v:ByteArray}(hi:tg F k v):∃n∈F.toL,hd n.1=hd k∧wO n k v:=by
 obtain⟨n,a,r,e,b⟩:=gM.1 hi;exact⟨n,a,by rw[e,pZ ((eP.1 h).2 n a).1],r,e,b⟩
theorem zE{F:Fo}(h:gf F){m n:Bn}(hm:m∈F.toL)(f:n∈F.toL)(e:hd m.1=hd n.1):m=n:=by
 have d:=(eP.1 h).1;revert hm f;generalize F.toL=l at*;clear h;induction l with
 |nil=>intro hm;simp at hm
 |cons a l ih=>
  have d:=aF.1 d;intro hm f;rcases aC.1 hm with i|c
  ·rcases aC.1 f with g|b
   ·rw[i,g]
   ·have:=d.1 n b;rw[←i]at this;omega
  ·rcases aC.1 f with g|b
   ·have:=d.1 m c;rw[←g]at this;omega
   ·exact ih d.2 c b
def Br(P:List UInt8→ByteArray→Prop):Prop:=(∃v,P [] v)∨∃j k u v,P j u∧P k v∧j≠[]∧k≠[]∧hd j≠hd k
theorem JX{w:Option ByteArray}{F:Fo}(h:gf F):(w.isSome∨2≤F.toL.length)↔Br (uQ w F):=by
 constructor
 ·rintro(y|z)
  ·obtain⟨v,hv⟩:=jH.1 y
   exact .inl ⟨v,.inl ⟨rfl,hv⟩⟩
  ·right
   have c:=pf h;have hc:=eP.1 h;match hL:F.toL,z with
   |a::b::l,_=>
    have i:a∈F.toL:=by rw[hL];simp
    have g:b∈F.toL:=by rw[hL];simp
    obtain⟨r,v,t⟩:=c a i;obtain⟨s,u,c⟩:=c b g;have p:=(hc.2 a i).1;have h2:=(hc.2 b g).1;have:=hc.1;rw[hL]at this;have C:=(aF.1 this).1 b (au ..);refine⟨a.1++r,b.1++s,v,u,.inr (gM.2 ⟨a,i,r,rfl,t⟩),.inr (gM.2 ⟨b,g,s,rfl,c⟩),?_,?_,?_⟩
    ·intro e;exact p (kN.1 e).1
    ·intro e;exact h2 (kN.1 e).1
    ·rw[pZ p,pZ h2];omega
 ·rintro(⟨v,hv⟩|⟨j,k,u,v,f,d,B,nk,q⟩)
  ·rcases hv with⟨_,hv⟩|hv
   ·left;rw[hv];rfl
   ·exact absurd rfl (qR h hv)
  ·right
   rcases f with⟨e,_⟩|f
   ·exact absurd e B
   rcases d with⟨e,_⟩|d
   ·exact absurd e nk
   obtain⟨m,hm,A,_⟩:=tJ h f;obtain⟨n,o,x,_⟩:=tJ h d;match hL:F.toL with
   | []=>rw[hL]at hm;simp at hm
   | [a]=>
    rw[hL]at hm o;rw[aD.1 hm]at A;rw[aD.1 o]at x;omega
   |a::b::l=>simp
end Go.Proofs
namespace Go.Proofs
theorem UU{m n:Bn}(g:Br (uQ m.2.1 m.2.2))(h:∀k v,wO m k v→wO n k v):∃t,m.1=n.1++t:=by
 rcases g with⟨v,hv⟩|⟨j,k,u,v,i,d,o,nk,b⟩
 ·obtain⟨r,e,_⟩:=h m.1 v ⟨[],(aL _).symm,hv⟩
  exact⟨r,e⟩
 ·obtain⟨r,e,_⟩:=h (m.1++j) u ⟨j,rfl,i⟩
  obtain⟨s,f,_⟩:=h (m.1++k) v ⟨k,rfl,d⟩;rcases List.append_eq_append_iff.1 e with⟨a,c,h2⟩|⟨a,c,h2⟩
  ·rw[c,aq]at f
   have f:=fg f;cases a with
   |nil=>exact⟨[],by rw[c];simp⟩
   |cons x a=>
    rw[h2]at b;rw[f]at b;exact absurd rfl b
  ·exact⟨a,c⟩
theorem Tf:∀{F F':Fo},gf F→gf F'→(∀k v,tg F k v↔tg F' k v)→F=F'
 | .nil,.nil,_,_,_=>rfl
 | .nil,.cons lab w b c,_,h,he=>by
  obtain⟨r,v,j⟩:=pf h _ (au ..);exact((he _ v).2 (gM.2 ⟨_,au ..,r,rfl,j⟩)).elim
 | .cons lab w b c,.nil,h,_,he=>by
  obtain⟨r,v,j⟩:=pf h _ (au ..);exact((he _ v).1 (gM.2 ⟨_,au ..,r,rfl,j⟩)).elim
 | .cons lab w b c,.cons d g a f,h,h',he=>by
  have x:∀{lab w b c} {F:Fo},gf (.cons lab w b c)→gf F→(∀k v,tg F k v→tg (.cons lab w b c) k v)→∀n∈F.toL,hd lab≤hd n.1:=by
   intro lab w b c F h I hi n i;obtain⟨r,v,j⟩:=pf I n i;obtain⟨m,hm,e,_⟩:=tJ h (hi _ v (gM.2 ⟨n,i,r,rfl,j⟩));rw[pZ ((eP.1 I).2 n i).1]at e;rcases aC.1 hm with rfl|hm
   ·simp only at e;omega
   ·have:=h.2.2.2.1 m hm;omega
  have K:=x h h' (fun k v=>(he k v).2) _ (au ..)
  have M:=x h' h (fun k v=>(he k v).1) _ (au ..)
  simp only at K M;have q:hd lab=hd d:=by omega
  have z:∀{lab w b c d g a f},gf (.cons lab w b c)→gf (.cons d g a f)→hd lab=hd d→(∀k v,tg (.cons lab w b c) k v→tg (.cons d g a f) k v)→(∀k v,wO (lab,w,b) k v→wO (d,g,a) k v)∧(∀k v,tg c k v→tg f k v):=by
   intro lab w b c d g a f h h' q hi;refine⟨fun k v o=>?_,fun k v o=>?_⟩
   ·obtain⟨n,i,e,j⟩:=tJ h' (hi k v (gM.2 ⟨_,au ..,o⟩))
    obtain⟨r,rfl,_⟩:=o;rw[pZ h.1]at e;rw[←zE h' i (au ..) (by simp only;omega)];exact j
   ·obtain⟨m,hm,P,_⟩:=tJ h.2.2.2.2 o
    have:=h.2.2.2.1 m hm;obtain⟨n,i,e,j⟩:=tJ h' (hi k v (Or.inr o));rcases aC.1 i with rfl|i
    ·simp only at e;omega
    ·exact gM.2 ⟨n,i,j⟩
  have⟨E,r1⟩:=z h h' q fun k v=>(he k v).1
  have⟨H,r2⟩:=z h' h q.symm fun k v=>(he k v).2
  have p:c=f:=Tf h.2.2.2.2 h'.2.2.2.2 fun k v=>⟨r1 k v,r2 k v⟩
  obtain⟨t,B⟩:=UU (m:=(lab,w,b)) (n:=(d,g,a)) ((JX h.2.2.1).1 h.2.1) E;obtain⟨O,A⟩:=UU (m:=(d,g,a)) (n:=(lab,w,b)) ((JX h'.2.2.1).1 h'.2.1) H;simp only at B A;have u:lab=d:=by
   have:t= []:=by
    have N:=congrArg fP B;have h2:=congrArg fP A;rw[ac]at N h2;exact List.length_eq_zero_iff.1 (by omega)
   rw[B,this,aL]
  subst u;have y:∀{w b g a},(∀k v,wO (lab,w,b) k v→wO (lab,g,a) k v)→∀k v,uQ w b k v→uQ g a k v:=by
   intro w b g a i k v o;obtain⟨r,e,j⟩:=i (lab++k) v ⟨k,rfl,o⟩;rw[fg e];exact j
  have G:=y E;have J:=y H;have L:w=g:=by
   have C:∀{w b g a},gf a→(∀k v,uQ w b k v→uQ g a k v)→∀v,w=some v→g=some v:=by
    intro w b g a hc hi v hv;rcases hi [] v (.inl ⟨rfl,hv⟩)with⟨_,h⟩|h
    ·exact h
    ·exact absurd rfl (qR hc h)
   exact Option.ext fun v=>⟨C h'.2.2.1 G v,C h.2.2.1 J v⟩
  have D:∀{w b g a},gf b→(∀k v,uQ w b k v→uQ g a k v)→∀k v,tg b k v→tg a k v:=by
   intro w b g a hc hi k v o;rcases hi k v (.inr o)with⟨e,_⟩|h
   ·exact absurd e (qR hc o)
   ·exact h
  have s:b=a:=Tf h.2.2.1 h'.2.2.1 fun k v=>⟨D h.2.2.1 G k v,D h'.2.2.1 J k v⟩
  rw[L,s,p]
def xZ(P a:List UInt8→ByteArray→Prop)(k:List UInt8)(v:ByteArray):Prop:=∀k' v',a k' v'↔(k'=k∧v'=v)∨(k'≠k∧P k' v')
theorem Ml{w:Option ByteArray}{F:Fo}(h:gf F)(v:ByteArray):xZ (uQ w F) (uQ (some v) F) [] v:=by
 intro k' a;unfold uQ;constructor
 ·rintro(⟨e,f⟩|hi)
  ·exact .inl ⟨e,(bO.inj f).symm⟩
  ·exact .inr ⟨qR h hi,.inr hi⟩
 ·rintro(⟨e,f⟩|⟨e,⟨f,_⟩|hi⟩)
  ·exact .inl ⟨e,by rw[f]⟩
  ·exact absurd f e
  ·exact .inr hi
theorem FU{w:Option ByteArray}{F F':Fo}{k:List UInt8}{v:ByteArray}(a:k≠[])(h:xZ (tg F) (tg F') k v):xZ (uQ w F) (uQ w F') k v:=by
 intro k' b;unfold uQ;rw[h k' b];constructor
 ·rintro(⟨e,f⟩|hi|hi)
  ·exact .inr ⟨fun c=>a (c.symm.trans e),.inl ⟨e,f⟩⟩
  ·exact .inl hi
  ·exact .inr ⟨hi.1,.inr hi.2⟩
 ·rintro(hi|⟨e,hi|hi⟩)
  ·exact .inr (.inl hi)
  ·exact .inl hi
  ·exact .inr (.inr ⟨e,hi⟩)
theorem VU{F:Fo}{k:List UInt8}{v:ByteArray}{i:Nat}(h:gf F)(u:k≠[])(hi:∀j (d:j<F.toL.length),j<i→hd F.toL[j].1<hd k)(g:∀j (d:j<F.toL.length),i≤j→hd k<hd F.toL[j].1):gf (.ofL (F.toL.take i++(k,some v,.nil)::F.toL.drop i))∧xZ (tg F) (tg (.ofL (F.toL.take i++(k,some v,.nil)::F.toL.drop i))) k v:=by
 have hc:=eP.1 h;have t1:∀n∈F.toL.take i,hd n.1<hd k:=fun n c=>by
  obtain⟨j,d,e⟩:=bQ c;rw[aQ]at d;rw[←e,List.getElem_take];exact hi j (by omega) (by omega)
 have t2:∀n∈F.toL.drop i,hd k<hd n.1:=fun n c=>by
  obtain⟨j,d,e⟩:=bQ c;rw[aV]at d;rw[←e,List.getElem_drop];exact g _ (by omega) (by omega)
 have mem:∀n,n∈F.toL.take i++(k,some v,.nil)::F.toL.drop i↔n=(k,some v,Fo.nil)∨n∈F.toL:=fun n=>by
  conv=>rhs;rw[←aO i F.toL]
  simp only[List.mem_append,aC];exact⟨fun h=>h.elim (fun h=>.inr (.inl h)) fun h=>h.elim .inl fun h=>.inr (.inr h),fun h=>h.elim (fun h=>.inr (.inl h)) fun h=>h.elim .inl fun h=>.inr (.inr h)⟩
 refine⟨eP.2 ⟨?_,?_⟩,fun k' w=>?_⟩
 ·rw[Fo.to_of]
  have m:=hc.1;rw[←aO i F.toL,cx]at m;refine cx.2 ⟨m.1,aF.2 ⟨t2,m.2.1⟩,fun a t b p=>?_⟩
  rcases aC.1 p with rfl|p
  ·exact t1 a t
  ·exact m.2.2 a t b p
 ·rw[Fo.to_of]
  intro n c;rcases(mem n).1 c with rfl|c
  ·exact⟨u,.inl rfl,trivial⟩
  ·exact hc.2 n c
 ·rw[gM,gM,Fo.to_of]
  constructor
  ·rintro⟨n,c,r,e,q⟩
   rcases(mem n).1 c with rfl|c
   ·rcases q with⟨rfl,f⟩|f
    ·exact .inl ⟨by rw[e];exact aL _,(bO.inj f).symm⟩
    ·exact f.elim
   ·right
    refine⟨fun x=>?_,n,c,r,e,q⟩
    have y:hd k=hd n.1:=by rw[←x,e,pZ (hc.2 n c).1]
    obtain⟨j,d,s⟩:=bQ c;rcases bR j i with o|o
    ·have:=hi j d o;rw[s]at this;omega
    ·have:=g j d o;rw[s]at this;omega
  ·rintro(⟨rfl,rfl⟩|⟨_,n,c,h⟩)
   ·exact⟨(k',some w,.nil),(mem _).2 (.inl rfl),[],(aL _).symm,.inl ⟨rfl,rfl⟩⟩
   ·exact⟨n,(mem _).2 (.inr c),h⟩
theorem pb{α:Type}{l:List α}{i:Nat}(hi:i<l.length){a x:α}(d:∀j (c:j<l.length),j≠i→l[j]≠l[i]):x∈l.set i a↔x=a∨(x∈l∧x≠l[i]):=by
 constructor
 ·intro h
  obtain⟨j,c,e⟩:=bQ h;rw[List.length_set]at c;rw[List.getElem_set]at e;split at e
  ·exact .inl e.symm
  ·rename_i b
   exact .inr ⟨by rw[←e];exact bh c,by rw[←e];exact d j c fun e=>b e.symm⟩
 ·rintro(rfl|⟨h,b⟩)
  ·exact qe (i:=i) (h:=by simpa using hi) (by simp)
  ·obtain⟨j,c,e⟩:=bQ h
   have:i≠j:=by rintro rfl;exact b e.symm
   exact qe (i:=j) (h:=by simpa using c) (by rw[List.getElem_set_ne this];exact e)
theorem Vc{F:Fo}{i:Nat}{m:Bn}(h:gf F)(hi:i<F.toL.length)(hm:Q9 m)(e:hd m.1=hd F.toL[i].1):gf (.ofL (F.toL.set i m)):=by
 have hc:=eP.1 h;rw[eP,Fo.to_of];refine⟨?_,fun n g=>?_⟩
 ·rw[cn]at hc⊢
  intro a b d f c;rw[List.length_set]at d f;rw[List.getElem_set,List.getElem_set];split
  ·rename_i ea;subst ea
   rw[if_neg (by omega),e];exact hc.1 _ _ d f c
  ·split
   ·rename_i eb;subst eb
    rw[e];exact hc.1 _ _ d f c
   ·exact hc.1 _ _ d f c
 ·rcases List.mem_or_eq_of_mem_set g with g|rfl
  ·exact hc.2 n g
  ·exact hm
theorem zd{F:Fo}(h:gf F){i:Nat}(hi:i<F.toL.length)(j:Nat)(c:j<F.toL.length)(b:j≠i):F.toL[j]≠F.toL[i]:=by
 have hc:=(eP.1 h).1;rw[cn]at hc;intro e;rcases Nat.lt_or_gt_of_ne b with a|a
 ·have:=hc j i c hi a;rw[e]at this;omega
 ·have:=hc i j hi c a;rw[e]at this;omega
theorem PL{F:Fo}{i:Nat}{m:Bn}{k:List UInt8}{v:ByteArray}(h:gf F)(hi:i<F.toL.length)(ek:hd F.toL[i].1=hd k)(g:xZ (wO F.toL[i]) (wO m) k v):xZ (tg F) (tg (.ofL (F.toL.set i m))) k v:=by
 intro k' f;have hc:=eP.1 h;rw[gM,gM,Fo.to_of];constructor
 ·rintro⟨n,a,c⟩
  rcases(pb hi (zd h hi)).1 a with rfl|⟨a,d⟩
  ·rcases(g k' f).1 c with b|⟨b,h2⟩
   ·exact .inl b
   ·exact .inr ⟨b,_,bh hi,h2⟩
  ·refine .inr ⟨fun e=>d ?_,n,a,c⟩
   obtain⟨r,j,_⟩:=c;refine zE h a (bh hi) ?_;rw[ek,←e,j,pZ (hc.2 n a).1]
 ·rintro(b|⟨b,n,a,c⟩)
  ·exact⟨m,(pb hi (zd h hi)).2 (.inl rfl),(g k' f).2 (.inl b)⟩
  ·by_cases e:n=F.toL[i]
   ·exact⟨m,(pb hi (zd h hi)).2 (.inl rfl),(g k' f).2 (.inr ⟨b,by rw[←e];exact c⟩)⟩
   ·exact⟨n,(pb hi (zd h hi)).2 (.inr ⟨a,e⟩),c⟩
theorem VT{lab r:List UInt8}{w f:Option ByteArray}{F F':Fo}{v:ByteArray}(h:xZ (uQ w F) (uQ f F') r v):xZ (wO (lab,w,F)) (wO (lab,f,F')) (lab++r) v:=by
 intro k' b;constructor
 ·rintro⟨s,e,a⟩
  rcases(h s b).1 a with⟨rfl,rfl⟩|⟨c,h2⟩
  ·exact .inl ⟨e,rfl⟩
  ·exact .inr ⟨fun d=>c (fg (e.symm.trans d)),s,e,h2⟩
 ·rintro(⟨rfl,rfl⟩|⟨c,s,e,a⟩)
  ·exact⟨r,rfl,(h r b).2 (.inl ⟨rfl,rfl⟩)⟩
  ·exact⟨s,e,(h s b).2 (.inr ⟨fun d=>c (by rw[e,d]),a⟩)⟩
def cm:List UInt8→List UInt8→Nat
 |a::x,b::y=>if a=b then cm x y+1 else 0
 |_,_=>0
theorem Vb:∀(x y:List UInt8),cm x y≤x.length∧cm x y≤y.length
 | [],_=>by simp[cm]
 |_::_,[]=>by simp[cm]
 |a::x,b::y=>by unfold cm;have:=Vb x y;split<;>simp<;>omega
theorem U9:∀(x y:List UInt8),x.take (cm x y)=y.take (cm x y)
 | [],_=>by simp[cm]
 |_::_,[]=>by simp[cm]
 |a::x,b::y=>by
  unfold cm;split
  ·rename_i e;rw[eo,eo,U9 x y,e]
  ·simp
theorem Og:∀(x y:List UInt8),cm x y<x.length→cm x y<y.length→hd (x.drop (cm x y))≠hd (y.drop (cm x y))
 | [],_=>by simp[cm]
 |_::_,[]=>by simp[cm]
 |a::x,b::y=>by
  unfold cm;split
  ·rename_i e
   intro c h2;rw[List.length_cons]at c h2;rw[iT,iT];exact Og x y (by omega) (by omega)
  ·rename_i e
   intro _ _ h;exact e (nR.1 h)
theorem YH{x y:List UInt8}(hx:x≠[])(c:y≠[])(h:hd x=hd y):0<cm x y:=by
 match x,y,hx,c with
 |a::x,b::y,_,_=>
  unfold cm;rw[if_pos (show a=b from nR.1 h)]
  omega
theorem MK{lab:List UInt8}{w:Option ByteArray}{F:Fo}(c:Nat):∀k v,wO (lab.take c,none,.cons (lab.drop c) w F .nil) k v↔wO (lab,w,F) k v:=by
 intro k v;constructor
 ·rintro⟨r,e,⟨_,h⟩|(⟨s,rfl,h⟩|h)⟩
  ·cases h
  ·exact⟨s,by rw[e];simp only;rw[←aq,aO],h⟩
  ·exact h.elim
 ·rintro⟨s,e,h⟩
  exact⟨lab.drop c++s,by rw[e];simp only;rw[←aq,aO],.inr (.inl ⟨s,rfl,h⟩)⟩
theorem YR{lab r:List UInt8}{w d:Option ByteArray}{F F':Fo}{v:ByteArray}(b:lab≠[])(j:w.isSome∨2≤F.toL.length)(k:gf F)(a:r≠[]→hd r≠hd lab)(h:xZ (uQ none (.cons lab w F .nil)) (uQ d F') r v):Br (uQ d F'):=by
 by_cases e:r= []
 ·subst e
  exact .inl ⟨v,(h [] v).2 (.inl ⟨rfl,rfl⟩)⟩
 ·have hc:gf (.cons lab w F .nil):=⟨b,j,k,fun n i=>by simp[Fo.toL]at i,trivial⟩
  obtain⟨s,u,f⟩:=pf hc _ (au ..);simp only at f;have g:hd (lab++s)=hd lab:=pZ b;refine .inr ⟨r,lab++s,v,u,(h r v).2 (.inl ⟨rfl,rfl⟩),(h _ u).2 (.inr ⟨fun c=>a e (by rw[←c,g]),.inr (.inl ⟨s,rfl,f⟩)⟩),e,fun c=>b (kN.1 c).1,by rw[g];exact a e⟩
theorem aaB{P d:List UInt8→ByteArray→Prop}{k:List UInt8}{v:ByteArray}(f:Br P)(h:xZ P d k v):Br d:=by
 have keep:∀j u,P j u→∃c,d j c:=fun j u g=>by
  by_cases e:j=k
  ·exact⟨v,(h j v).2 (.inl ⟨e,rfl⟩)⟩
  ·exact⟨u,(h j u).2 (.inr ⟨e,g⟩)⟩
 rcases f with⟨u,i⟩|⟨j,k',u,c,g,m,r⟩
 ·obtain⟨c,h'⟩:=keep [] u i
  exact .inl ⟨c,h'⟩
 ·obtain⟨a,n⟩:=keep j u g
  obtain⟨b,f⟩:=keep k' c m;exact .inr ⟨j,k',a,b,n,f,r⟩
end Go.Proofs
namespace Go.Proofs
open Go.Lift
theorem FB(n:Int):0≤IntKind.wrap .u64 n∧IntKind.wrap .u64 n<18446744073709551616:=by rw[IntKind.wrap_u64];omega
theorem eJ{x:Int}(h: -4611686018427387904≤x∧x≤4611686018427387904):IntKind.wrap .i64 x=x:=Go.IntWalk.i64_in _ (by omega)
theorem cS{i n:Nat}(h:i<n)(a:n≤4611686018427387904):IntKind.wrap .i64 ((i:Int)+1)=((i+1:Nat):Int):=by rw[eJ (by omega)];omega
theorem wr{h:ad}{b i:Nat}{c:Array Value}{t:TypeId}{v:Value}{k:ad→Prop}(a:h[b]? =some (.cells c t (0,0)))
  (d:∀h',h'[b]? =some (.cells (c.setIfInBounds i v) t (0,0))→Upd (· =b) h h'→k h'):At (hset h ⟨b,i,none⟩ v) k:=by
 refine d _ ?_ (Upd.hset _ _ rfl);rw[yo a,jE a]
def QI(a b:Int):Int:=IntKind.wrap .u64 (ao (IntKind.bits .u64) a&&&ao (IntKind.bits .u64) b).toNat
def dT(a b:Int):Int:=IntKind.wrap .u64 (ao (IntKind.bits .u64) a^^^ao (IntKind.bits .u64) b).toNat
def Jh(a b:Int):Int:=IntKind.wrap .u64 (ao (IntKind.bits .u64) a|||ao (IntKind.bits .u64) b).toNat
def IU(x n:Int):Int:=
 Jh (IntKind.wrap .u64 (x*2^(min (QI (IntKind.wrap .u64 n) 63).toNat (IntKind.bits .u64)))) (Int.fdiv x (2^(min (IntKind.wrap .u64 (64-QI (IntKind.wrap .u64 n) 63)).toNat (IntKind.bits .u64))))
theorem FO{x n:Int}{h:ad}{K:Int→ad→Prop}(a:K (IU x n) h):HC PG dP [.int .u64 x,.int .i64 n] [.c (.int .u64)] K h:=by
 refine ya x n ?_;unfold qv;exact⟨(FB _).1,(FB _).1,a⟩
abbrev Q4:=Int×Int×Int×Int
def q4(s:Q4):Array Value:= #[.int .u64 s.1,.int .u64 s.2.1,.int .u64 s.2.2.1,.int .u64 s.2.2.2]
def Y4(a b:Int):Int:=IntKind.wrap .u64 (a+b)
def Zn(s:Q4):Q4:=(Y4 s.1 s.2.1,s.2)
def ZQ(s:Q4):Q4:=(s.1,dT (IU s.2.1 13) s.1,s.2.2)
def aaU(s:Q4):Q4:=(IU s.1 32,s.2)
def abu(s:Q4):Q4:=(s.1,s.2.1,Y4 s.2.2.1 s.2.2.2,s.2.2.2)
def ab9(s:Q4):Q4:=(s.1,s.2.1,s.2.2.1,dT (IU s.2.2.2 16) s.2.2.1)
def acw(s:Q4):Q4:=(Y4 s.1 s.2.2.2,s.2)
def adh(s:Q4):Q4:=(s.1,s.2.1,s.2.2.1,dT (IU s.2.2.2 21) s.1)
def adu(s:Q4):Q4:=(s.1,s.2.1,Y4 s.2.2.1 s.2.1,s.2.2.2)
def s09(s:Q4):Q4:=(s.1,dT (IU s.2.1 17) s.2.2.1,s.2.2)
def aaT(s:Q4):Q4:=(s.1,s.2.1,IU s.2.2.1 32,s.2.2.2)
def m8(s:Q4):Q4:=aaT (s09 (adu (adh (acw (ab9 (abu (aaU (ZQ (Zn s)))))))))
def rK:Nat→Q4→Q4
 |0,s=>s
 |n+1,s=>rK n (m8 s)
theorem tF{h:ad}{b i:Nat}{t:TypeId}{s s':Q4}{v:Value}{k:ad→Prop}(f:h[b]? =some (.cells (q4 s) t (0,0))) (e:(q4 s).setIfInBounds i v=q4 s')
  (c:∀h',h'[b]? =some (.cells (q4 s') t (0,0))→Upd (· =b) h h'→k h'):At (hset h ⟨b,i,none⟩ v) k:=
 wr f fun h' a d=>c h' (e▸a) d
theorem Md{n:Nat}(X:n≤100){h:ad}{b:Nat}{t:TypeId}{s:Q4}(A:h[b]? =some (.cells (q4 s) t (0,0))) {K:Unit→ad→Prop}
  (P:∀h',h'[b]? =some (.cells (q4 (rK n s)) t (0,0))→Upd (· =b) h h'→K () h'):HC PG lq [.pointer (some ⟨b,0,none⟩),.int .i64 n] [] K h:=by
 refine Du _ _ ?_;unfold wB bE bT dy nX;refine LoopP.ghost (fun(g:Nat×Q4) (O:Int) h'=>O=(g.1:Int)∧g.1≤n∧h'[b]? =some (.cells (q4 g.2) t (0,0))∧Upd (· =b) h h'∧rK (n-g.1) g.2=rK n s) (fun g=>n-g.1) (0,s) ⟨rfl,Nat.zero_le _,A,Upd.refl _ _,rfl⟩ ?_
 rintro I ⟨i,d⟩ O h' ⟨N,hi,a,M,x⟩ Q;simp only at N hi a x;subst N;refine ax (fun v=>?_) fun S=>?_
 ·have v:i<n:=by omega
  have c:∀{h:ad} {s:Q4} {i:Nat},h[b]? =some (.cells (q4 s) t (0,0))→aJ h ⟨b,0+i,none⟩=(q4 s)[i]?:=fun A=>by rw[aR];exact bm A
  have w:∀{h:ad} {s:Q4} {i:Nat},h[b]? =some (.cells (q4 s) t (0,0))→i<4→Wr h ⟨b,0+i,none⟩:=fun A hi=>by rw[aR];exact ip A hi
  simp only[show((0:Int)).toNat*1=0 from rfl,show((1:Int)).toNat*1=1 from rfl,show((2:Int)).toNat*1=2 from rfl,show((3:Int)).toNat*1=3 from rfl]
  refine⟨_,rfl,by decide,_,c (i:=0) a,_,rfl,by decide,_,c (i:=1) a,_,rfl,by decide,w (i:=0) a (by decide),tF (s':=Zn d) a rfl fun h2 e G=>?_⟩
  refine⟨_,rfl,by decide,_,c (i:=1) e,_,rfl,by decide,_,c (i:=0) e,_,rfl,FO ⟨c (i:=0) e,by decide,w (i:=1) e (by decide),tF (s':=ZQ (Zn d)) e rfl fun Y u L=>?_⟩⟩
  refine⟨_,rfl,by decide,_,c (i:=0) u,_,rfl,FO ⟨by decide,w (i:=0) u (by decide),tF (s':=aaU (ZQ (Zn d))) u rfl fun V o E=>?_⟩⟩
  refine⟨_,rfl,by decide,_,c (i:=2) o,_,rfl,by decide,_,c (i:=3) o,_,rfl,by decide,w (i:=2) o (by decide),tF (s':=abu (aaU (ZQ (Zn d)))) o rfl fun h5 j C=>?_⟩
  refine⟨_,rfl,by decide,_,c (i:=3) j,_,rfl,by decide,_,c (i:=2) j,_,rfl,FO ⟨c (i:=2) j,by decide,w (i:=3) j (by decide),tF (s':=ab9 (abu (aaU (ZQ (Zn d))))) j rfl fun Z p H=>?_⟩⟩
  refine⟨_,rfl,by decide,_,c (i:=0) p,_,rfl,by decide,_,c (i:=3) p,_,rfl,by decide,w (i:=0) p (by decide),tF (s':=acw (ab9 (abu (aaU (ZQ (Zn d)))))) p rfl fun W f D=>?_⟩
  refine⟨_,rfl,by decide,_,c (i:=3) f,_,rfl,by decide,_,c (i:=0) f,_,rfl,FO ⟨c (i:=0) f,by decide,w (i:=3) f (by decide),tF (s':=adh (acw (ab9 (abu (aaU (ZQ (Zn d))))))) f rfl fun U q F=>?_⟩⟩
  refine⟨_,rfl,by decide,_,c (i:=2) q,_,rfl,by decide,_,c (i:=1) q,_,rfl,by decide,w (i:=2) q (by decide),tF (s':=adu (adh (acw (ab9 (abu (aaU (ZQ (Zn d)))))))) q rfl fun h9 k J=>?_⟩
  refine⟨_,rfl,by decide,_,c (i:=1) k,_,rfl,by decide,_,c (i:=2) k,_,rfl,FO ⟨c (i:=2) k,by decide,w (i:=1) k (by decide),tF (s':=s09 (adu (adh (acw (ab9 (abu (aaU (ZQ (Zn d))))))))) k rfl fun T m y=>?_⟩⟩
  refine⟨_,rfl,by decide,_,c (i:=2) m,_,rfl,FO ⟨by decide,w (i:=2) m (by decide),tF (s':=m8 d) m rfl fun R B z=>?_⟩⟩
  rw[cS v (by omega)];refine Q (i+1,m8 d) _ _ ⟨rfl,v,B,M.tr (G.tr (L.tr (E.tr (C.tr (H.tr (D.tr (F.tr (J.tr (y.tr z))))))))),?_⟩ (by simp only;omega);simp only;rw[←x,show n-i=(n-(i+1))+1 by omega];rfl
 ·obtain rfl:i=n:=by omega
  rw[Nat.sub_self]at x;have x:d=rK i s:=x;rw[←x]at P;exact P _ a M
end Go.Proofs
namespace Go.Proofs
open Go.Lift
def QF(s:ByteArray)(i:Nat):Int:=match s[i]? with|some b=>(b.toNat:Int)|none=>0
def aaO(b:Int)(n:Int):Int:=IntKind.wrap .u64 ((IntKind.wrap .u64 b)*2^(min n.toNat (IntKind.bits .u64)))
def wj(s:ByteArray):Nat→Int→Int
 |0,t=>t
 |k+1,t=>wj s k (Jh t (if k=0 then IntKind.wrap .u64 (QF s 0)else aaO (QF s k) ((8*k:Nat):Int)))
def B6(s:ByteArray):Int:=wj s s.size 0
theorem xe{s:ByteArray}{i:Nat}(h:i<s.size):∃b,s[i]? =some b∧QF s i=(b.toNat:Int):=⟨s[i],getElem?_pos s i h,by simp[QF,getElem?_pos s i h]⟩
theorem Uc{s:ByteArray}(L:s.size≤8){h:ad}{K:Int→ad→Prop}(f:K (B6 s) h):HC PG zn [.string s] [.c (.int .u64)] K h:=by
 refine Ty s ?_;unfold Ks;refine Join.intro (fun t h'=>h'=h∧1≤s.size∧wj s 1 t=wj s s.size 0) (fun G k=>?_) ?_
 ·refine Join.intro (fun t h'=>h'=h∧2≤s.size∧wj s 2 t=wj s s.size 0) (fun R2 n=>?_) ?_
  ·refine Join.intro (fun t h'=>h'=h∧3≤s.size∧wj s 3 t=wj s s.size 0) (fun F g=>?_) ?_
   ·refine Join.intro (fun t h'=>h'=h∧4≤s.size∧wj s 4 t=wj s s.size 0) (fun O p=>?_) ?_
    ·refine Join.intro (fun t h'=>h'=h∧5≤s.size∧wj s 5 t=wj s s.size 0) (fun J o=>?_) ?_
     ·refine Join.intro (fun t h'=>h'=h∧6≤s.size∧wj s 6 t=wj s s.size 0) (fun I m=>?_) ?_
      ·refine Join.intro (fun t h'=>h'=h∧7≤s.size∧wj s 7 t=wj s s.size 0) (fun H j=>?_) ?_
       ·refine CondP.intro (fun e=>?_) fun q=>?_
        ·have e:s.size=8:=by have:=of_decide_eq_true (by simpa using e:decide ((s.size:Int)=8)=true);omega
         obtain⟨b,a,hv⟩:=xe (s:=s) (i:=7) (by omega);refine⟨b,by decide,a,by decide,j _ _ ⟨rfl,by omega,?_⟩⟩
         rw[e,←hv];rfl
        refine CondP.intro (fun e=>?_) fun z=>?_
        ·have e:s.size=7:=by have:=of_decide_eq_true (by simpa using e:decide ((s.size:Int)=7)=true);omega
         exact j _ _ ⟨rfl,by omega,by rw[e]⟩
        refine CondP.intro (fun e=>?_) fun A=>?_
        ·have e:s.size=6:=by have:=of_decide_eq_true (by simpa using e:decide ((s.size:Int)=6)=true);omega
         exact m _ _ ⟨rfl,by omega,by rw[e]⟩
        refine CondP.intro (fun e=>?_) fun u=>?_
        ·have e:s.size=5:=by have:=of_decide_eq_true (by simpa using e:decide ((s.size:Int)=5)=true);omega
         exact o _ _ ⟨rfl,by omega,by rw[e]⟩
        refine CondP.intro (fun e=>?_) fun x=>?_
        ·have e:s.size=4:=by have:=of_decide_eq_true (by simpa using e:decide ((s.size:Int)=4)=true);omega
         exact p _ _ ⟨rfl,by omega,by rw[e]⟩
        refine CondP.intro (fun e=>?_) fun v=>?_
        ·have e:s.size=3:=by have:=of_decide_eq_true (by simpa using e:decide ((s.size:Int)=3)=true);omega
         exact g _ _ ⟨rfl,by omega,by rw[e]⟩
        refine CondP.intro (fun e=>?_) fun y=>?_
        ·have e:s.size=2:=by have:=of_decide_eq_true (by simpa using e:decide ((s.size:Int)=2)=true);omega
         exact n _ _ ⟨rfl,by omega,by rw[e]⟩
        refine CondP.intro (fun e=>?_) fun w=>?_
        ·have e:s.size=1:=by have:=of_decide_eq_true (by simpa using e:decide ((s.size:Int)=1)=true);omega
         exact k _ _ ⟨rfl,by omega,by rw[e]⟩
        have e:s.size=0:=by
         have D:¬(s.size:Int)=1:=by simpa using w
         have C:¬(s.size:Int)=2:=by simpa using y
         have B:¬(s.size:Int)=3:=by simpa using v
         have q4:¬(s.size:Int)=4:=by simpa using x
         have E:¬(s.size:Int)=5:=by simpa using u
         have M:¬(s.size:Int)=6:=by simpa using A
         have P:¬(s.size:Int)=7:=by simpa using z
         have N:¬(s.size:Int)=8:=by simpa using q
         omega
        unfold B6 at f;rw[e]at f;exact f
       ·rintro t _ ⟨rfl,d,c⟩
        obtain⟨b,a,hv⟩:=xe (s:=s) (i:=6) (by omega);refine⟨b,by decide,a,by decide,m _ _ ⟨rfl,by omega,?_⟩⟩
        rw[←c,←hv];rfl
      ·rintro t _ ⟨rfl,d,c⟩
       obtain⟨b,a,hv⟩:=xe (s:=s) (i:=5) (by omega);refine⟨b,by decide,a,by decide,o _ _ ⟨rfl,by omega,?_⟩⟩
       rw[←c,←hv];rfl
     ·rintro t _ ⟨rfl,d,c⟩
      obtain⟨b,a,hv⟩:=xe (s:=s) (i:=4) (by omega);refine⟨b,by decide,a,by decide,p _ _ ⟨rfl,by omega,?_⟩⟩
      rw[←c,←hv];rfl
    ·rintro t _ ⟨rfl,d,c⟩
     obtain⟨b,a,hv⟩:=xe (s:=s) (i:=3) (by omega);refine⟨b,by decide,a,by decide,g _ _ ⟨rfl,by omega,?_⟩⟩
     rw[←c,←hv];rfl
   ·rintro t _ ⟨rfl,d,c⟩
    obtain⟨b,a,hv⟩:=xe (s:=s) (i:=2) (by omega);refine⟨b,by decide,a,by decide,n _ _ ⟨rfl,by omega,?_⟩⟩
    rw[←c,←hv];rfl
  ·rintro t _ ⟨rfl,d,c⟩
   obtain⟨b,a,hv⟩:=xe (s:=s) (i:=1) (by omega);refine⟨b,by decide,a,by decide,k _ _ ⟨rfl,by omega,?_⟩⟩
   rw[←c,←hv];rfl
 ·rintro t _ ⟨rfl,d,c⟩
  obtain⟨b,a,hv⟩:=xe (s:=s) (i:=0) (by omega);refine⟨b,by decide,a,?_⟩
  unfold B6 at f;rw[←c]at f;rw[←hv];exact f
end Go.Proofs
namespace Go.Proofs
open Go.Lift
def vm(m:Int)(s:Q4):Q4:=
 let r:=rK 2 (s.1,s.2.1,s.2.2.1,dT s.2.2.2 m)
 (dT r.1 m,r.2)
theorem Ul{m:Int}{h:ad}{b:Nat}{t:TypeId}{s:Q4}(d:h[b]? =some (.cells (q4 s) t (0,0))) {K:Unit→ad→Prop}
  (j:∀h',h'[b]? =some (.cells (q4 (vm m s)) t (0,0))→Upd (· =b) h h'→K () h'):HC PG pC [.pointer (some ⟨b,0,none⟩),.int .u64 m] [] K h:=by
 refine Gq _ _ ?_;unfold yN bE bT vl dy;have c:∀{h:ad} {s:Q4} {i:Nat},h[b]? =some (.cells (q4 s) t (0,0))→aJ h ⟨b,0+i,none⟩=(q4 s)[i]?:=fun d=>by rw[aR];exact bm d
 have w:∀{h:ad} {s:Q4} {i:Nat},h[b]? =some (.cells (q4 s) t (0,0))→i<4→Wr h ⟨b,0+i,none⟩:=fun d hi=>by rw[aR];exact ip d hi
 simp only[show((0:Int)).toNat*1=0 from rfl,show((3:Int)).toNat*1=3 from rfl]
 refine⟨_,rfl,by decide,_,c (i:=3) d,_,rfl,by decide,w (i:=3) d (by decide),tF (s':=(s.1,s.2.1,s.2.2.1,dT s.2.2.2 m)) d rfl fun h2 f o=>?_⟩
 refine Md (n:=2) (by omega) f fun u a k=>?_
 have p:vm m s=(dT (rK 2 (s.1,s.2.1,s.2.2.1,dT s.2.2.2 m)).1 m,(rK 2 (s.1,s.2.1,s.2.2.1,dT s.2.2.2 m)).2):=by unfold vm;rfl
 rw[p]at j;generalize rK 2 (s.1,s.2.1,s.2.2.1,dT s.2.2.2 m)=r at a j;refine⟨_,rfl,by decide,_,c (i:=0) a,_,rfl,by decide,w (i:=0) a (by decide),tF (s':=(dT r.1 m,r.2)) a rfl fun q e g=>?_⟩
 exact j _ e (o.tr (k.tr g))
def GM:Nat→ByteArray→Q4→ByteArray×Q4
 |0,s,q=>(s,q)
 |n+1,s,q=>if 8≤s.size then GM n (s.extract 8 s.size) (vm (B6 (s.extract 0 8)) q)else(s,q)
def abS(r:Q4):Int:=dT (dT (dT r.1 r.2.1) r.2.2.1) r.2.2.2
def aar(q:Q4):Int:=abS (rK 4 (q.1,q.2.1,dT q.2.2.1 255,q.2.2.2))
def acr(n:Nat)(g:ByteArray×Q4):Int:=aar (vm (Jh (B6 g.1) (aaO (n:Int) 56)) g.2)
def RF(k0 k1:Int)(s:ByteArray):Int:=
 acr s.size (GM s.size s (dT k0 8317987319222330741,dT k1 7237128888997146477,dT k0 7816392313619706465,dT k1 8387220255154660723))
theorem aas{a:ad}{b:Nat}{t:TypeId}{r:Q4}(g:a[b]? =some (.cells (q4 r) t (0,0))) {K:Int→Prop} (f:K (abS r)):
  (((0:Int)≤(0:Int)∧(0:Int)<((4:Nat):Int))∧
   ∃v30:Int,aJ a (adr ⟨b,0,none⟩ ((0:Int).toNat*1))=some (.int .u64 v30)∧
   (((0:Int)≤(1:Int)∧(1:Int)<((4:Nat):Int))∧
    ∃v31:Int,aJ a (adr ⟨b,0,none⟩ ((1:Int).toNat*1))=some (.int .u64 v31)∧
    Bd (IntKind.wrap .u64 (ao (IntKind.bits .u64) v30^^^ao (IntKind.bits .u64) v31).toNat:Int) (fun n32=>
     (((0:Int)≤(2:Int)∧(2:Int)<((4:Nat):Int))∧
      ∃v33:Int,aJ a (adr ⟨b,0,none⟩ ((2:Int).toNat*1))=some (.int .u64 v33)∧
      Bd (IntKind.wrap .u64 (ao (IntKind.bits .u64) n32^^^ao (IntKind.bits .u64) v33).toNat:Int) (fun d=>
       (((0:Int)≤(3:Int)∧(3:Int)<((4:Nat):Int))∧
        ∃v35:Int,aJ a (adr ⟨b,0,none⟩ ((3:Int).toNat*1))=some (.int .u64 v35)∧
        Bd (IntKind.wrap .u64 (ao (IntKind.bits .u64) d^^^ao (IntKind.bits .u64) v35).toNat:Int) (fun e=>
         K e))))))):=by
 have c:∀{i:Nat},aJ a ⟨b,0+i,none⟩=(q4 r)[i]?:=by intro i;rw[aR];exact bm g
 exact⟨by decide,_,c (i:=0),by decide,_,c (i:=1),by decide,_,c (i:=2),by decide,_,c (i:=3),f⟩
theorem aaq{a:ad}{b:Nat}{t:TypeId}{q:Q4}(g:a[b]? =some (.cells (q4 q) t (0,0))) {K:Unit→ad→Prop}
  (o:∀h',h'[b]? =some (.cells (q4 (rK 4 (q.1,q.2.1,dT q.2.2.1 255,q.2.2.2))) t (0,0))→Upd (· =b) a h'→K () h'):
  (((0:Int)≤(2:Int)∧(2:Int)<((4:Nat):Int))∧
   ∃v25:Int,aJ a (adr ⟨b,0,none⟩ ((2:Int).toNat*1))=some (.int .u64 v25)∧
   Bd (IntKind.wrap .u64 (ao (IntKind.bits .u64) v25^^^ao (IntKind.bits .u64) 255).toNat:Int) (fun k=>
    (((0:Int)≤(2:Int)∧(2:Int)<((4:Nat):Int))∧
     (Wr a (adr ⟨b,0,none⟩ ((2:Int).toNat*1))∧
      At (hset a (adr ⟨b,0,none⟩ ((2:Int).toNat*1)) (.int .u64 k)) (fun f=>
       HC PG lq [.pointer (some ⟨b,0,none⟩),.int .i64 4] [] K f))))):=by
 have c:∀{i:Nat},aJ a ⟨b,0+i,none⟩=(q4 q)[i]?:=by intro i;rw[aR];exact bm g
 refine⟨by decide,_,c (i:=2),by decide,by rw[show((2:Int)).toNat*1=2 from rfl,cd];exact ip g (by simp[q4]),?_⟩
 refine tF (s':=(q.1,q.2.1,dT q.2.2.1 255,q.2.2.2)) g rfl fun s m j=>?_
 exact Md (n:=4) (by omega) m fun p d e=>o p d (j.tr e)
theorem bG{h:ad}{k:ad→Prop}(a:k h):At h k:=a
theorem abo{k0 k1:Int}{s:ByteArray}{h:ad}{K:Int→ad→Prop}(B:∀h',Upd No h h'→K (RF k0 k1 s) h'):HC PG F8 [.agg #[.int .u64 k0,.int .u64 k1],.string s] [.c (.int .u64)] K h:=by
 refine WP (k0,k1) s ?_;unfold Na bE bT ae nv vl dy acy Vk Vn Zu;have u:=Upd.hnew No h [.int .u64 k0,.int .u64 k1] nU;have b1:=co h [.int .u64 k0,.int .u64 k1] nU;have E:=jV h [.int .u64 k0,.int .u64 k1] nU;refine bG ?_;simp only[cT h];generalize hnew h [.int .u64 k0,.int .u64 k1] nU=h1 at u b1 E;refine⟨k0,by rw[cd,bm b1];rfl,k1,by rw[cd,bm b1];rfl,k0,by rw[cd,bm b1];rfl,k1,by rw[cd,bm b1];rfl,?_⟩
 have L:=Upd.hnew No h1 [.int .u64 0,.int .u64 0,.int .u64 0,.int .u64 0] lV;have b2:=co h1 [.int .u64 0,.int .u64 0,.int .u64 0,.int .u64 0] lV;simp only[cT h1];simp only[Bd];refine bG ?_;refine⟨.inr ⟨_,rfl,fun j J=>by rw[cd];exact ip b2 (by simp at J⊢;omega)⟩,?_⟩
 refine bG ?_;rw[kX _ _ 0 0 _ b2 (by simp)];have b3:=jE (o:=.cells (q4 (dT k0 8317987319222330741,dT k1 7237128888997146477,dT k0 7816392313619706465,dT k1 8387220255154660723)) lV (0,0)) b2;have G:Upd No h _:=u.tr (L.trans (M':=(· =h1.size)) (Upd.set (hnew h1 [.int .u64 0,.int .u64 0,.int .u64 0,.int .u64 0] lV) (.cells (q4 (dT k0 8317987319222330741,dT k1 7237128888997146477,dT k0 7816392313619706465,dT k1 8387220255154660723)) lV (0,0)) rfl) fun b d=>.inr (Nat.le_of_eq d.symm))
 refine LoopP.ghost (fun(g:Nat×Q4) (a:ByteArray) h'=>a.size≤g.1∧h'[h1.size]? =some (.cells (q4 g.2) lV (0,0))∧Upd No h h'∧GM g.1 a g.2=GM s.size s (dT k0 8317987319222330741,dT k1 7237128888997146477,dT k0 7816392313619706465,dT k1 8387220255154660723)) (fun g=>g.1) (s.size,_)
  ⟨aj _,b3,G,rfl⟩ ?_
 rintro I ⟨n,q⟩ a h' ⟨H,d,A,t⟩ D;simp only at H d t;have f:∀b,b=h1.size→No b∨h.size≤b:=fun b d=>.inr (by omega)
 refine ax (fun p=>?_) fun z=>?_
 ·have p:8≤a.size:=by omega
  cases n with
  |zero=>omega
  |succ n=>
   refine⟨by omega,Uc (by rw[gC];show min 8 _-0≤8;omega) (Ul d fun h2 e k=>⟨by omega,?_⟩)⟩
   have F:((8:Int)).toNat=8:=rfl;rw[F]at e⊢;refine D (n,vm (B6 (a.extract 0 8)) q) _ _ ⟨by simp only[gC];omega,e,A.trans k f,?_⟩ (by simp only;omega);rw[←t];simp only[GM,if_pos p]
 ·have z:a.size<8:=by omega
  have t:(a,q)=GM s.size s (dT k0 8317987319222330741,dT k1 7237128888997146477,dT k0 7816392313619706465,dT k1 8387220255154660723):=by
   rw[←t];cases n with
   |zero=>rfl
   |succ n=>simp only[GM,if_neg (show ¬8≤a.size by omega)]
  have c:∀{h:ad} {s:Q4} {i:Nat},h[h1.size]? =some (.cells (q4 s) lV (0,0))→aJ h ⟨h1.size,0+i,none⟩=(q4 s)[i]?:=fun d=>by rw[aR];exact bm d
  have w:∀{h:ad} {s:Q4} {i:Nat},h[h1.size]? =some (.cells (q4 s) lV (0,0))→i<4→Wr h ⟨h1.size,0+i,none⟩:=fun d hi=>by rw[aR];exact ip d hi
  have v:RF k0 k1 s=aar (vm (Jh (B6 a) (aaO (s.size:Int) 56)) q):=by unfold RF;rw[←t];rfl
  rw[v]at B;refine Uc (by omega) ⟨by decide,Ul (m:=Jh (B6 a) (aaO (s.size:Int) 56)) d fun h2 e k=>?_⟩
  refine aaq e fun C x y=>aas (K:=fun n=>K n C) x ?_
  exact B C ((A.trans k f).trans y f)
structure Hs where
 k0:Int
 k1:Int
 mask:Int
def gq(h:Hs)(s:ByteArray):Int:=QI (RF h.k0 h.k1 s) h.mask
theorem vE{x:Hs}{s:ByteArray}{h:ad}{K:Int→ad→Prop}(c:∀h',Upd No h h'→K (gq x s) h'):HC PG eE [.agg #[.int .u64 x.k0,.int .u64 x.k1,.int .u64 x.mask],.string s] [.c (.int .u64)] K h:=by
 refine EM (x.k0,x.k1,x.mask) s ?_;unfold xp ae cg AA acj;have a:=Upd.hnew No h [.int .u64 x.k0,.int .u64 x.k1,.int .u64 x.mask] cA;have b1:=co h [.int .u64 x.k0,.int .u64 x.k1,.int .u64 x.mask] cA;simp only[At,cT h];generalize hnew h [.int .u64 x.k0,.int .u64 x.k1,.int .u64 x.mask] cA=h1 at a b1;refine⟨x.k0,by rw[cd,cd,bm b1];rfl,x.k1,by rw[cd,cd,bm b1];rfl,x.mask,by rw[cd,bm b1];rfl,?_⟩
 refine abo fun h2 b=>⟨by rw[cd,bm (b.get0 b1)];rfl,c _ (a.tr b)⟩
theorem G7(x:Hs)(s:ByteArray):0≤gq x s∧gq x s<18446744073709551616:=FB _
end Go.Proofs
namespace Go.Proofs
open Go Go.Lift
abbrev ey(x:ByteArray×ByteArray):List Value:= [.string x.1,.string x.2]
theorem fU(x:ByteArray×ByteArray):(ey x).length=2∧0<2:=⟨rfl,by omega⟩
theorem za:∀xs:List (ByteArray×ByteArray),cH (xs.flatMap ey)=true
 | []=>rfl
 |x::xs=>by rw[aN];exact m9 rfl (za xs)
theorem NS{h:ad}{a b o c d f e:Nat}{i cw:Array Value}{j tb:TypeId}(hv:h[a]? =some (.cells i j (0,0))) (p:h[b]? =some (.cells cw tb (0,0))) (k:a≠b) (m:cw.size≠0) {K:Bool→ad→Prop} (n:K false h):
  HC PG kJ [.slice (some ⟨a,0,none⟩) c d,.slice (some ⟨b,o,none⟩) f e] [.c .bool] K h:=by
 refine⟨fun w g=>.inr ⟨.bool false,w,?_,Tame.refl w,false,rfl,g▸n⟩⟩
 subst g;rw[vH];have:=Lib.run_overlaps_apart (P:=PG) w cr rG al (by kernel_rfl) (cB PG al) (uC (by kernel_rfl)) ⟨a,0,none⟩ ⟨b,o,none⟩ c d f e k j tb i.size cw.size
  (by simp[World.shape?,hv]) (by simp[World.shape?,p]) m (by simp[World.frozen?,hv]) (by simp[World.frozen?,hv])
 rw[show([Value.slice (some ⟨a,0,none⟩) c d,Value.slice (some ⟨b,o,none⟩) f e]:List Value).toArray= #[.slice (some ⟨a,0,none⟩) c d,.slice (some ⟨b,o,none⟩) f e]from rfl,this]
 rfl
set_option maxRecDepth 4000 in
theorem SN{M:Nat→Prop}{h:ad}{s:SliceV}{xs:List (ByteArray×ByteArray)}(T:OwnS ey 2 al M h s xs){k:Nat}(hkl:k≤xs.length)(hn:(xs.length+1)*32≤140737488355328){x:ByteArray×ByteArray}{m:Nat}(hv:h[m]? =some (.cells (ey x).toArray al (0,0)))
  (hvM:¬M m) (hM:∀b,h.size≤b→M b) {K:SliceV→ad→Prop} (Z:∀s' h',OwnS ey 2 al M h' s' (xs.take k++x::xs.drop k)→Upd M h h'→K s' h'):
  HC PG dA [.slice s.a s.len s.cap,.int .i64 k,.slice (some ⟨m,0,none⟩) 1 1] [.c .slice] K h:=by
 refine pN s k ⟨some ⟨m,0,none⟩,1,1⟩ ?_;unfold jZ lO;have p:=T.len;have hcap:=T.cap;have P:SRow h (some ⟨m,0,none⟩) (1*2) (ey x):=⟨rfl,.inr ⟨_,rfl,ox hv fun i v hi=>by simpa using hi⟩⟩
 refine⟨by omega,ag.2 ?_⟩;refine CondP.intro (fun e=>?_) fun e=>?_
 ·have e:k=xs.length:=by have:=of_decide_eq_true (by simpa using e:decide ((k:Int)=(s.len:Int))=true);omega
  subst e;refine⟨_,P,AppP.own (ys:= [x]) T rfl (by simp) rfl rfl (by omega) (by simp;omega) (hM _ (aj _)) fun s' h' ho hu=>Z s' h' ?_ hu⟩
  rw[ce,uc];exact ho
 have hlt:k<xs.length:=by
  rcases bR k xs.length with h|h
  ·exact h
  ·have:((k:Int)==(s.len:Int))=true:=by rw[beq_iff_eq];omega
   rw[this]at e;cases e
 rcases T.blk with h0|⟨b,g,ha,t,hc,hr⟩
 ·omega
 have d:((xs.take k).flatMap ey).length=k*2:=by rw[ni fU,aQ,bH hkl]
 have u:((xs.drop k).flatMap ey).length=(xs.length-k)*2:=by rw[ni fU,aV]
 have I:m≠b:=fun e=>hvM (e▸t)
 rw[Dm (f:=ey) xs k]at hc;have a:(xs.take k++x::xs.drop k).flatMap ey=(xs.take k).flatMap ey++(ey x++(xs.drop k).flatMap ey):=by rw[bI,aN]
 have j:=za (xs.drop k);have c:(ey x).length=2:=rfl;have z:cH (ey x)=true:=rfl;generalize hAe:(xs.take k).flatMap ey=A at d hc a;generalize hBe:(xs.drop k).flatMap ey=B at u hc a j;generalize ey x=X at P c hv a z;rw[ha];have w1:IntKind.wrap .i64 ((xs.length:Int)+((1:Nat):Int))=((xs.length+1:Nat):Int):=by rw[eJ (by omega)];omega
 have w2:IntKind.wrap .i64 ((k:Int)+((1:Nat):Int))=((k+1:Nat):Int):=by rw[eJ (by omega)];omega
 have w3:IntKind.wrap .i64 (((xs.length+1:Nat):Int)-(k:Int))=((xs.length+1-k:Nat):Int):=by rw[eJ (by omega)];omega
 simp only[w1,w2,w3,aU,p];refine ax (fun hgt=>?_) fun hle=>?_
 ·
  have J:s.cap=xs.length:=by omega
  refine Join.plain ⟨by omega,⟨by omega,by omega,by omega,by omega⟩,fun hin=>?_,fun O=>?_⟩
  ·omega
  ·refine⟨A,_,?_,rfl,by omega,Go.growslice_fits O (by omega),fun D C=>?_⟩
   ·rw[sub_zero]
    exact nZ hc (by rw[d];omega) (by simp only[cW,fz];rw[aq,←d,gP (aj _),ce])
   ·simp only[aU]at C⊢
    have S:=Upd.hnew No h (A++eK (xs.length+1-k) [.string (⟨#[]⟩:ByteArray),.string (⟨#[]⟩:ByteArray)]++eK (D-(k-0+(xs.length+1-k))) [.string (⟨#[]⟩:ByteArray),.string (⟨#[]⟩:ByteArray)]) al;have bn:=co h (A++eK (xs.length+1-k) [.string (⟨#[]⟩:ByteArray),.string (⟨#[]⟩:ByteArray)]++eK (D-(k-0+(xs.length+1-k))) [.string (⟨#[]⟩:ByteArray),.string (⟨#[]⟩:ByteArray)]) al
    have y:(eK (xs.length+1-k) [.string (⟨#[]⟩:ByteArray),.string (⟨#[]⟩:ByteArray)]).length=(xs.length+1-k)*2:=oQ _ _;have hz2:(eK (D-(k-0+(xs.length+1-k))) [.string (⟨#[]⟩:ByteArray),.string (⟨#[]⟩:ByteArray)]).length=(D-(k-0+(xs.length+1-k)))*2:=oQ _ _;have n:k-0+(xs.length+1-k)=xs.length+1:=by omega
    rw[cT];have hsz:h.size≠m:=fun e=>by have:=aY hv;omega
    have G:h.size≠b:=fun e=>by have:=aY hc;omega
    have F:=S.get0 hc;have N:=S.get0 hv;generalize hnew h _ al=h9 at S bn F N;rw[n]at C hz2⊢;have m1:eX 1 (xs.length+1-k)=1:=bH (by omega);have m2:eX (xs.length-k) (xs.length+1-(k+1))=xs.length-k:=bH (by omega);rw[m1];have V:SRow h9 (some ⟨m,0,none⟩) (1*2) X:=nZ N (by rw[c]) (by rw[cW,bD];rw[c];omega)
    refine⟨by omega,?_⟩;rw[mh (by omega)];refine nI V z bn (by simp only[ac,d,y];omega) fun U Q o=>⟨by omega,?_⟩
    simp only[Bd];rw[mh (by omega),mh (by omega),m2];refine⟨by omega,?_⟩;have w:=o.get F (fun e=>G e.symm)
    have br:SRow U (some ⟨b,0+k*2,none⟩) ((xs.length-k)*2) B:=nZ w u (by
     rw[aR,aq,←d,gi,←u,g7])
    refine nI br j Q ?_ fun h16 H L=>?_
    ·simp only[ac,aQ,aV,d,y,c];omega
    ·refine Z _ _ ⟨by simp;omega,fU,C,.inr ⟨h.size,eK (D-(xs.length+1)) [.string (⟨#[]⟩:ByteArray),.string (⟨#[]⟩:ByteArray)],rfl,hM _ (aj _),?_,by rw[oQ];rfl⟩⟩ ((S.wide.trans (M':=(· =h.size)) o fun b t=>.inl (t▸hM _ (aj _))).trans (M':=(· =h.size)) L fun b t=>.inl (t▸hM _ (aj _)))
     rw[H,a];have:=N0 (A:=A) (X:=X) (B:=B) (Z1:=eK (xs.length+1-k) [.string (⟨#[]⟩:ByteArray),.string (⟨#[]⟩:ByteArray)]) (Z2:=eK (D-(xs.length+1)) [.string (⟨#[]⟩:ByteArray),.string (⟨#[]⟩:ByteArray)]) (r:=(xs.length-k)*2) d c (by rw[y,←jc];congr 1;omega);rw[n,←this];simp only[aR,jc,uP]
 ·have J:xs.length+1≤s.cap:=by omega
  refine⟨by omega,?_⟩;simp only[Bd,fz];rw[sub_zero,mh (show s.cap≠k+1 by omega),mh (show s.cap≠k by omega)]
  refine⟨by omega,?_⟩;have hrl:2≤g.length:=by rw[hr];exact sN _ (by omega)
  refine NS hv hc I (by rw[dD,ac];omega) ?_;refine aw.2 ⟨by omega,by omega,?_⟩
  have m1:eX 1 (xs.length+1-k)=1:=bH (by omega);have m2:eX (xs.length+1-k) (xs.length+1-(k+1))=xs.length-k:=by
   rw[show xs.length+1-(k+1)=xs.length-k by omega];exact il (by omega)
  rw[m2];have br:SRow h (some ⟨b,0+k*2,none⟩) ((xs.length-k)*2) B:=nZ hc u (by
   rw[aR,aq,←d,gi,←u,g7])
  refine nI br j hc (by simp only[ac,d,u];omega) fun h1 W E=>⟨by omega,?_⟩
  rw[m1];have xr1:SRow h1 (some ⟨m,0,none⟩) (1*2) X:=nZ (E.get hv I) (by rw[c]) (by rw[cW,bD];rw[c];omega);refine nI xr1 z W (by simp only[ac,aQ,aV,d,u];omega) fun h2 Y hu2=>?_
  refine Z _ _ ⟨by simp;omega,fU,J,.inr ⟨b,g.drop 2,rfl,t,?_,?_⟩⟩ ((E.mono fun _ e=>.inl (e▸t)).tr (hu2.mono fun _ e=>.inl (e▸t)))
  ·rw[Y,a]
   have:=SP (A:=A) (X:=X) (B:=B) (R:=g) (q:=2) (r:=(xs.length-k)*2) d u hrl;rw[←this];simp only[aR,jc,uP]
  ·rw[aV,hr]
   simp only;rw[p];omega
abbrev uy(x:Option Addr):List Value:= [.pointer x]
theorem uX(x:Option Addr):(uy x).length=1∧0<1:=⟨rfl,by omega⟩
theorem H3:∀xs:List (Option Addr),cH (xs.flatMap uy)=true
 | []=>rfl
 |x::xs=>by rw[aN];exact m9 rfl (H3 xs)
theorem NT{h:ad}{a b o c d f e:Nat}{i cw:Array Value}{j tb:TypeId}(hv:h[a]? =some (.cells i j (0,0))) (p:h[b]? =some (.cells cw tb (0,0))) (k:a≠b) (m:cw.size≠0) {K:Bool→ad→Prop} (n:K false h):
  HC PG jM [.slice (some ⟨a,0,none⟩) c d,.slice (some ⟨b,o,none⟩) f e] [.c .bool] K h:=by
 refine⟨fun w g=>.inr ⟨.bool false,w,?_,Tame.refl w,false,rfl,g▸n⟩⟩
 subst g;rw[uL];have:=Lib.run_overlaps_apart (P:=PG) w uS rG cf (by kernel_rfl) (cB PG cf) (uC (by kernel_rfl)) ⟨a,0,none⟩ ⟨b,o,none⟩ c d f e k j tb i.size cw.size
  (by simp[World.shape?,hv]) (by simp[World.shape?,p]) m (by simp[World.frozen?,hv]) (by simp[World.frozen?,hv])
 rw[show([Value.slice (some ⟨a,0,none⟩) c d,Value.slice (some ⟨b,o,none⟩) f e]:List Value).toArray= #[.slice (some ⟨a,0,none⟩) c d,.slice (some ⟨b,o,none⟩) f e]from rfl,this]
 rfl
set_option maxRecDepth 4000 in
theorem SO{M:Nat→Prop}{h:ad}{s:SliceV}{xs:List (Option Addr)}(T:OwnS uy 1 cf M h s xs){k:Nat}(hkl:k≤xs.length)(hn:(xs.length+1)*8≤140737488355328){x:Option Addr}{m:Nat}(hv:h[m]? =some (.cells (uy x).toArray cf (0,0)))
  (hvM:¬M m) (hM:∀b,h.size≤b→M b) {K:SliceV→ad→Prop} (Z:∀s' h',OwnS uy 1 cf M h' s' (xs.take k++x::xs.drop k)→Upd M h h'→K s' h'):
  HC PG db [.slice s.a s.len s.cap,.int .i64 k,.slice (some ⟨m,0,none⟩) 1 1] [.c .slice] K h:=by
 refine nK s k ⟨some ⟨m,0,none⟩,1,1⟩ ?_;unfold iY;have p:=T.len;have hcap:=T.cap;have P:SRow h (some ⟨m,0,none⟩) (1*1) (uy x):=⟨rfl,.inr ⟨_,rfl,ox hv fun i v hi=>by simpa using hi⟩⟩
 refine⟨by omega,ag.2 ?_⟩;refine CondP.intro (fun e=>?_) fun e=>?_
 ·have e:k=xs.length:=by have:=of_decide_eq_true (by simpa using e:decide ((k:Int)=(s.len:Int))=true);omega
  subst e;refine⟨_,P,AppP.own (ys:= [x]) T rfl (by simp) rfl rfl (by omega) (by simp;omega) (hM _ (aj _)) fun s' h' ho hu=>Z s' h' ?_ hu⟩
  rw[ce,uc];exact ho
 have hlt:k<xs.length:=by
  rcases bR k xs.length with h|h
  ·exact h
  ·have:((k:Int)==(s.len:Int))=true:=by rw[beq_iff_eq];omega
   rw[this]at e;cases e
 rcases T.blk with h0|⟨b,g,ha,t,hc,hr⟩
 ·omega
 have d:((xs.take k).flatMap uy).length=k*1:=by rw[ni uX,aQ,bH hkl]
 have u:((xs.drop k).flatMap uy).length=(xs.length-k)*1:=by rw[ni uX,aV]
 have I:m≠b:=fun e=>hvM (e▸t)
 rw[Dm (f:=uy) xs k]at hc;have a:(xs.take k++x::xs.drop k).flatMap uy=(xs.take k).flatMap uy++(uy x++(xs.drop k).flatMap uy):=by rw[bI,aN]
 have j:=H3 (xs.drop k);have c:(uy x).length=1:=rfl;have z:cH (uy x)=true:=rfl;generalize hAe:(xs.take k).flatMap uy=A at d hc a;generalize hBe:(xs.drop k).flatMap uy=B at u hc a j;generalize uy x=X at P c hv a z;rw[ha];have w1:IntKind.wrap .i64 ((xs.length:Int)+((1:Nat):Int))=((xs.length+1:Nat):Int):=by rw[eJ (by omega)];omega
 have w2:IntKind.wrap .i64 ((k:Int)+((1:Nat):Int))=((k+1:Nat):Int):=by rw[eJ (by omega)];omega
 have w3:IntKind.wrap .i64 (((xs.length+1:Nat):Int)-(k:Int))=((xs.length+1-k:Nat):Int):=by rw[eJ (by omega)];omega
 simp only[w1,w2,w3,aU,p];refine ax (fun hgt=>?_) fun hle=>?_
 ·
  have J:s.cap=xs.length:=by omega
  refine Join.plain ⟨by omega,⟨by omega,by omega,by omega,by omega⟩,fun hin=>?_,fun O=>?_⟩
  ·omega
  ·refine⟨A,_,?_,rfl,by omega,Go.growslice_fits O (by omega),fun D C=>?_⟩
   ·rw[sub_zero]
    exact nZ hc (by rw[d];omega) (by simp only[cW,fz];rw[aq,←d,gP (aj _),ce])
   ·simp only[aU]at C⊢
    have S:=Upd.hnew No h (A++eK (xs.length+1-k) [.pointer none]++eK (D-(k-0+(xs.length+1-k))) [.pointer none]) cf;have bn:=co h (A++eK (xs.length+1-k) [.pointer none]++eK (D-(k-0+(xs.length+1-k))) [.pointer none]) cf;have y:(eK (xs.length+1-k) [.pointer none]).length=(xs.length+1-k)*1:=oQ _ _;have hz2:(eK (D-(k-0+(xs.length+1-k))) [.pointer none]).length=(D-(k-0+(xs.length+1-k)))*1:=oQ _ _
    have n:k-0+(xs.length+1-k)=xs.length+1:=by omega
    rw[cT];have hsz:h.size≠m:=fun e=>by have:=aY hv;omega
    have G:h.size≠b:=fun e=>by have:=aY hc;omega
    have F:=S.get0 hc;have N:=S.get0 hv;generalize hnew h _ cf=h9 at S bn F N;rw[n]at C hz2⊢;have m1:eX 1 (xs.length+1-k)=1:=bH (by omega);have m2:eX (xs.length-k) (xs.length+1-(k+1))=xs.length-k:=bH (by omega);rw[m1];have V:SRow h9 (some ⟨m,0,none⟩) (1*1) X:=nZ N (by rw[c]) (by rw[cW,bD];rw[c];omega)
    refine⟨by omega,?_⟩;rw[mh (by omega)];refine nI V z bn (by simp only[ac,d,y];omega) fun U Q o=>⟨by omega,?_⟩
    simp only[Bd];rw[mh (by omega),mh (by omega),m2];refine⟨by omega,?_⟩;have w:=o.get F (fun e=>G e.symm)
    have br:SRow U (some ⟨b,0+k*1,none⟩) ((xs.length-k)*1) B:=nZ w u (by
     rw[aR,aq,←d,gi,←u,g7])
    refine nI br j Q ?_ fun h16 H L=>?_
    ·simp only[ac,aQ,aV,d,y,c];omega
    ·refine Z _ _ ⟨by simp;omega,uX,C,.inr ⟨h.size,eK (D-(xs.length+1)) [.pointer none],rfl,hM _ (aj _),?_,by rw[oQ];rfl⟩⟩ ((S.wide.trans (M':=(· =h.size)) o fun b t=>.inl (t▸hM _ (aj _))).trans (M':=(· =h.size)) L fun b t=>.inl (t▸hM _ (aj _)))
     rw[H,a];have:=N0 (A:=A) (X:=X) (B:=B) (Z1:=eK (xs.length+1-k) [.pointer none]) (Z2:=eK (D-(xs.length+1)) [.pointer none]) (r:=(xs.length-k)*1) d c (by rw[y,←jc];congr 1;omega);rw[n,←this];simp only[aR,jc,uP]
 ·have J:xs.length+1≤s.cap:=by omega
  refine⟨by omega,?_⟩;simp only[Bd,fz];rw[sub_zero,mh (show s.cap≠k+1 by omega),mh (show s.cap≠k by omega)]
  refine⟨by omega,?_⟩;have hrl:1≤g.length:=by rw[hr];exact sN _ (by omega)
  refine NT hv hc I (by rw[dD,ac];omega) ?_;refine aw.2 ⟨by omega,by omega,?_⟩
  have m1:eX 1 (xs.length+1-k)=1:=bH (by omega);have m2:eX (xs.length+1-k) (xs.length+1-(k+1))=xs.length-k:=by
   rw[show xs.length+1-(k+1)=xs.length-k by omega];exact il (by omega)
  rw[m2];have br:SRow h (some ⟨b,0+k*1,none⟩) ((xs.length-k)*1) B:=nZ hc u (by
   rw[aR,aq,←d,gi,←u,g7])
  refine nI br j hc (by simp only[ac,d,u];omega) fun h1 W E=>⟨by omega,?_⟩
  rw[m1];have xr1:SRow h1 (some ⟨m,0,none⟩) (1*1) X:=nZ (E.get hv I) (by rw[c]) (by rw[cW,bD];rw[c];omega);refine nI xr1 z W (by simp only[ac,aQ,aV,d,u];omega) fun h2 Y hu2=>?_
  refine Z _ _ ⟨by simp;omega,uX,J,.inr ⟨b,g.drop 1,rfl,t,?_,?_⟩⟩ ((E.mono fun _ e=>.inl (e▸t)).tr (hu2.mono fun _ e=>.inl (e▸t)))
  ·rw[Y,a]
   have:=SP (A:=A) (X:=X) (B:=B) (R:=g) (q:=1) (r:=(xs.length-k)*1) d u hrl;rw[←this];simp only[aR,jc,uP]
  ·rw[aV,hr]
   simp only;rw[p];omega
abbrev rJ(x:Option Addr):List Value:= [.pointer x]
theorem qO(x:Option Addr):(rJ x).length=1∧0<1:=⟨rfl,by omega⟩
theorem H2:∀xs:List (Option Addr),cH (xs.flatMap rJ)=true
 | []=>rfl
 |x::xs=>by rw[aN];exact m9 rfl (H2 xs)
theorem NR{h:ad}{a b o c d f e:Nat}{i cw:Array Value}{j tb:TypeId}(hv:h[a]? =some (.cells i j (0,0))) (p:h[b]? =some (.cells cw tb (0,0))) (k:a≠b) (m:cw.size≠0) {K:Bool→ad→Prop} (n:K false h):
  HC PG jn [.slice (some ⟨a,0,none⟩) c d,.slice (some ⟨b,o,none⟩) f e] [.c .bool] K h:=by
 refine⟨fun w g=>.inr ⟨.bool false,w,?_,Tame.refl w,false,rfl,g▸n⟩⟩
 subst g;rw[tT];have:=Lib.run_overlaps_apart (P:=PG) w tC rG bW (by kernel_rfl) (cB PG bW) (uC (by kernel_rfl)) ⟨a,0,none⟩ ⟨b,o,none⟩ c d f e k j tb i.size cw.size
  (by simp[World.shape?,hv]) (by simp[World.shape?,p]) m (by simp[World.frozen?,hv]) (by simp[World.frozen?,hv])
 rw[show([Value.slice (some ⟨a,0,none⟩) c d,Value.slice (some ⟨b,o,none⟩) f e]:List Value).toArray= #[.slice (some ⟨a,0,none⟩) c d,.slice (some ⟨b,o,none⟩) f e]from rfl,this]
 rfl
set_option maxRecDepth 4000 in
theorem SM{M:Nat→Prop}{h:ad}{s:SliceV}{xs:List (Option Addr)}(T:OwnS rJ 1 bW M h s xs){k:Nat}(hkl:k≤xs.length)(hn:(xs.length+1)*8≤140737488355328){x:Option Addr}{m:Nat}(hv:h[m]? =some (.cells (rJ x).toArray bW (0,0)))
  (hvM:¬M m) (hM:∀b,h.size≤b→M b) {K:SliceV→ad→Prop} (Z:∀s' h',OwnS rJ 1 bW M h' s' (xs.take k++x::xs.drop k)→Upd M h h'→K s' h'):
  HC PG fj [.slice s.a s.len s.cap,.int .i64 k,.slice (some ⟨m,0,none⟩) 1 1] [.c .slice] K h:=by
 refine mN s k ⟨some ⟨m,0,none⟩,1,1⟩ ?_;unfold is;have p:=T.len;have hcap:=T.cap;have P:SRow h (some ⟨m,0,none⟩) (1*1) (rJ x):=⟨rfl,.inr ⟨_,rfl,ox hv fun i v hi=>by simpa using hi⟩⟩
 refine⟨by omega,ag.2 ?_⟩;refine CondP.intro (fun e=>?_) fun e=>?_
 ·have e:k=xs.length:=by have:=of_decide_eq_true (by simpa using e:decide ((k:Int)=(s.len:Int))=true);omega
  subst e;refine⟨_,P,AppP.own (ys:= [x]) T rfl (by simp) rfl rfl (by omega) (by simp;omega) (hM _ (aj _)) fun s' h' ho hu=>Z s' h' ?_ hu⟩
  rw[ce,uc];exact ho
 have hlt:k<xs.length:=by
  rcases bR k xs.length with h|h
  ·exact h
  ·have:((k:Int)==(s.len:Int))=true:=by rw[beq_iff_eq];omega
   rw[this]at e;cases e
 rcases T.blk with h0|⟨b,g,ha,t,hc,hr⟩
 ·omega
 have d:((xs.take k).flatMap rJ).length=k*1:=by rw[ni qO,aQ,bH hkl]
 have u:((xs.drop k).flatMap rJ).length=(xs.length-k)*1:=by rw[ni qO,aV]
 have I:m≠b:=fun e=>hvM (e▸t)
 rw[Dm (f:=rJ) xs k]at hc;have a:(xs.take k++x::xs.drop k).flatMap rJ=(xs.take k).flatMap rJ++(rJ x++(xs.drop k).flatMap rJ):=by rw[bI,aN]
 have j:=H2 (xs.drop k);have c:(rJ x).length=1:=rfl;have z:cH (rJ x)=true:=rfl;generalize hAe:(xs.take k).flatMap rJ=A at d hc a;generalize hBe:(xs.drop k).flatMap rJ=B at u hc a j;generalize rJ x=X at P c hv a z;rw[ha];have w1:IntKind.wrap .i64 ((xs.length:Int)+((1:Nat):Int))=((xs.length+1:Nat):Int):=by rw[eJ (by omega)];omega
 have w2:IntKind.wrap .i64 ((k:Int)+((1:Nat):Int))=((k+1:Nat):Int):=by rw[eJ (by omega)];omega
 have w3:IntKind.wrap .i64 (((xs.length+1:Nat):Int)-(k:Int))=((xs.length+1-k:Nat):Int):=by rw[eJ (by omega)];omega
 simp only[w1,w2,w3,aU,p];refine ax (fun hgt=>?_) fun hle=>?_
 ·
  have J:s.cap=xs.length:=by omega
  refine Join.plain ⟨by omega,⟨by omega,by omega,by omega,by omega⟩,fun hin=>?_,fun O=>?_⟩
  ·omega
  ·refine⟨A,_,?_,rfl,by omega,Go.growslice_fits O (by omega),fun D C=>?_⟩
   ·rw[sub_zero]
    exact nZ hc (by rw[d];omega) (by simp only[cW,fz];rw[aq,←d,gP (aj _),ce])
   ·simp only[aU]at C⊢
    have S:=Upd.hnew No h (A++eK (xs.length+1-k) [.pointer none]++eK (D-(k-0+(xs.length+1-k))) [.pointer none]) bW;have bn:=co h (A++eK (xs.length+1-k) [.pointer none]++eK (D-(k-0+(xs.length+1-k))) [.pointer none]) bW;have y:(eK (xs.length+1-k) [.pointer none]).length=(xs.length+1-k)*1:=oQ _ _;have hz2:(eK (D-(k-0+(xs.length+1-k))) [.pointer none]).length=(D-(k-0+(xs.length+1-k)))*1:=oQ _ _
    have n:k-0+(xs.length+1-k)=xs.length+1:=by omega
    rw[cT];have hsz:h.size≠m:=fun e=>by have:=aY hv;omega
    have G:h.size≠b:=fun e=>by have:=aY hc;omega
    have F:=S.get0 hc;have N:=S.get0 hv;generalize hnew h _ bW=h9 at S bn F N;rw[n]at C hz2⊢;have m1:eX 1 (xs.length+1-k)=1:=bH (by omega);have m2:eX (xs.length-k) (xs.length+1-(k+1))=xs.length-k:=bH (by omega);rw[m1];have V:SRow h9 (some ⟨m,0,none⟩) (1*1) X:=nZ N (by rw[c]) (by rw[cW,bD];rw[c];omega)
    refine⟨by omega,?_⟩;rw[mh (by omega)];refine nI V z bn (by simp only[ac,d,y];omega) fun U Q o=>⟨by omega,?_⟩
    simp only[Bd];rw[mh (by omega),mh (by omega),m2];refine⟨by omega,?_⟩;have w:=o.get F (fun e=>G e.symm)
    have br:SRow U (some ⟨b,0+k*1,none⟩) ((xs.length-k)*1) B:=nZ w u (by
     rw[aR,aq,←d,gi,←u,g7])
    refine nI br j Q ?_ fun h16 H L=>?_
    ·simp only[ac,aQ,aV,d,y,c];omega
    ·refine Z _ _ ⟨by simp;omega,qO,C,.inr ⟨h.size,eK (D-(xs.length+1)) [.pointer none],rfl,hM _ (aj _),?_,by rw[oQ];rfl⟩⟩ ((S.wide.trans (M':=(· =h.size)) o fun b t=>.inl (t▸hM _ (aj _))).trans (M':=(· =h.size)) L fun b t=>.inl (t▸hM _ (aj _)))
     rw[H,a];have:=N0 (A:=A) (X:=X) (B:=B) (Z1:=eK (xs.length+1-k) [.pointer none]) (Z2:=eK (D-(xs.length+1)) [.pointer none]) (r:=(xs.length-k)*1) d c (by rw[y,←jc];congr 1;omega);rw[n,←this];simp only[aR,jc,uP]
 ·have J:xs.length+1≤s.cap:=by omega
  refine⟨by omega,?_⟩;simp only[Bd,fz];rw[sub_zero,mh (show s.cap≠k+1 by omega),mh (show s.cap≠k by omega)]
  refine⟨by omega,?_⟩;have hrl:1≤g.length:=by rw[hr];exact sN _ (by omega)
  refine NR hv hc I (by rw[dD,ac];omega) ?_;refine aw.2 ⟨by omega,by omega,?_⟩
  have m1:eX 1 (xs.length+1-k)=1:=bH (by omega);have m2:eX (xs.length+1-k) (xs.length+1-(k+1))=xs.length-k:=by
   rw[show xs.length+1-(k+1)=xs.length-k by omega];exact il (by omega)
  rw[m2];have br:SRow h (some ⟨b,0+k*1,none⟩) ((xs.length-k)*1) B:=nZ hc u (by
   rw[aR,aq,←d,gi,←u,g7])
  refine nI br j hc (by simp only[ac,d,u];omega) fun h1 W E=>⟨by omega,?_⟩
  rw[m1];have xr1:SRow h1 (some ⟨m,0,none⟩) (1*1) X:=nZ (E.get hv I) (by rw[c]) (by rw[cW,bD];rw[c];omega);refine nI xr1 z W (by simp only[ac,aQ,aV,d,u];omega) fun h2 Y hu2=>?_
  refine Z _ _ ⟨by simp;omega,qO,J,.inr ⟨b,g.drop 1,rfl,t,?_,?_⟩⟩ ((E.mono fun _ e=>.inl (e▸t)).tr (hu2.mono fun _ e=>.inl (e▸t)))
  ·rw[Y,a]
   have:=SP (A:=A) (X:=X) (B:=B) (R:=g) (q:=1) (r:=(xs.length-k)*1) d u hrl;rw[←this];simp only[aR,jc,uP]
  ·rw[aV,hr]
   simp only;rw[p];omega
end Go.Proofs
