/- A part of the proof that the named laws of this program answer true, whatever the input. -/
import Derived.Test.YtncppacbfagpgaaGreatDoorTreeF0
import Derived.Test.YtncppacbfagpgaaGreatDoorTreeF1
import Derived.Test.YtncppacbfagpgaaGreatDoorTreeF2
import Derived.Test.YtncppacbfagpgaaGreatDoorTreeF3
import Derived.Test.YtncppacbfagpgaaGreatDoorLaw0
import Derived.Test.YtncppacbfagpgaaGreatDoorLift3
import Derived.Lib.Overlaps
open BitVec renaming ofInt→aq
open ByteArray renaming size_extract→gC
open Int renaming toNat_natCast→aR
open List renaming mem_cons_self→av,mem_cons_of_mem→aC,mem_cons→aB,pairwise_cons→aA,append_eq_nil_iff→kU,mem_singleton→aF,append_nil→aL,append_assoc→ar,append_cancel_left→fk,length→fy,length_append→ac,getElem_of_mem→bm,length_take→aI,length_drop→aU,take_append_drop→aK,pairwise_append→cr,getElem_mem→bw,mem_of_getElem→qt,pairwise_iff_getElem→ce,take_succ_cons→eA,drop_succ_cons→iV,flatMap_cons→aP,take_length→bT,drop_length→qc,flatMap_append→bR,drop_zero→cO,take_append_of_le_length→gP,take_of_length_le→bo,drop_left→g8,take_left→iM,size_toArray→ed
open Nat renaming lt_or_ge→bZ,zero_add→aQ,le_refl→aj,min_eq_left→bN,sub_zero→fa,min→fc,add_one_mul→je,one_mul→vd,le_mul_of_pos_left→tf,min_eq_right→il
open Option renaming isSome_iff_exists→jQ,some→bQ
open UInt8 renaming toNat_inj→nX
namespace Go.Proofs
inductive Fo where
 |nil:Fo
 |cons (lab:List UInt8) (val:Option ByteArray) (kids rest:Fo):Fo
abbrev Bn:=List UInt8×Option ByteArray×Fo
def Fo.toL:Fo→List Bn
 | .nil=> []
 | .cons lab w kids rest=>(lab,w,kids)::rest.toL
theorem Fo.toL_cons(lab:List UInt8)(w:Option ByteArray)(a b:Fo):(Fo.cons lab w a b).toL=(lab,w,a)::b.toL:=rfl
def Fo.ofL:List Bn→Fo
 | []=>.nil
 |(lab,w,kids)::l=>.cons lab w kids (Fo.ofL l)
theorem Fo.to_of:∀l:List Bn,(Fo.ofL l).toL=l
 | []=>rfl
 |(_,_,_)::l=>by show _::(Fo.ofL l).toL=_;rw[Fo.to_of l]
theorem Fo.of_to:∀F:Fo,Fo.ofL F.toL=F
 | .nil=>rfl
 | .cons lab w kids rest=>by show Fo.cons lab w kids (Fo.ofL rest.toL)=_;rw[Fo.of_to rest]
def tF:Fo→List UInt8→ByteArray→Prop
 | .nil,_,_=>False
 | .cons lab w kids rest,k,v=>(∃r,k=lab++r∧((r= []∧w=some v)∨tF kids r v))∨tF rest k v
def uY(w:Option ByteArray)(F:Fo)(k:List UInt8)(v:ByteArray):Prop:=(k= []∧w=some v)∨tF F k v
def wr(n:Bn)(k:List UInt8)(v:ByteArray):Prop:=∃r,k=n.1++r∧uY n.2.1 n.2.2 r v
theorem gM:∀{F:Fo} {k:List UInt8} {v:ByteArray},tF F k v↔∃n∈F.toL,wr n k v
 | .nil,_,_=>by simp[tF,Fo.toL]
 | .cons lab w kids rest,k,v=>by
  rw[Fo.toL_cons];unfold tF;rw[gM (F:=rest)];constructor
  ·rintro(h|⟨n,a,h⟩)
   ·exact⟨_,av ..,h⟩
   ·exact⟨n,aC _ a,h⟩
  ·rintro⟨n,a,h⟩
   rcases aB.1 a with rfl|a
   ·exact .inl h
   ·exact .inr ⟨n,a,h⟩
def hd(k:List UInt8):Nat:=(k.headD 0).toNat
theorem qi{a b:List UInt8}(h:a≠[]):hd (a++b)=hd a:=by
 cases a with
 |nil=>exact absurd rfl h
 |cons x a=>rfl
theorem abk(a:List UInt8):hd a<256:=UInt8.toNat_lt _
def ge:Fo→Prop
 | .nil=>True
 | .cons lab w kids rest=>lab≠[]∧(w.isSome∨2≤kids.toL.length)∧ge kids∧(∀n∈rest.toL,hd lab<hd n.1)∧ge rest
def Mi(n:Bn):Prop:=n.1≠[]∧(n.2.1.isSome∨2≤n.2.2.toL.length)∧ge n.2.2
theorem eT:∀{F:Fo},ge F↔F.toL.Pairwise (fun m n=>hd m.1<hd n.1)∧∀n∈F.toL,Mi n
 | .nil=>by simp[ge,Fo.toL]
 | .cons lab w kids rest=>by
  rw[Fo.toL_cons,aA];show(lab≠[]∧(w.isSome∨2≤kids.toL.length)∧ge kids∧(∀n∈rest.toL,hd lab<hd n.1)∧ge rest)↔_
  rw[eT (F:=rest)];constructor
  ·rintro⟨e,h2,f,c,d,b⟩
   refine⟨⟨c,d⟩,fun n a=>?_⟩
   rcases aB.1 a with rfl|a
   ·exact⟨e,h2,f⟩
   ·exact b n a
  ·rintro⟨⟨c,d⟩,b⟩
   have:=b _ (av ..);exact⟨this.1,this.2.1,this.2.2,c,d,fun n a=>b n (aC _ a)⟩
theorem pn:∀{F:Fo},ge F→∀n∈F.toL,∃r v,uY n.2.1 n.2.2 r v
 | .nil,_,n,a=>by simp[Fo.toL]at a
 | .cons lab w kids rest,h,n,a=>by
  rcases aB.1 a with rfl|a
  ·rcases h.2.1 with d|b
   ·obtain⟨v,hv⟩:=jQ.1 d
    exact⟨[],v,.inl ⟨rfl,hv⟩⟩
   ·have c:=pn h.2.2.1
    have⟨m,hm⟩:∃m,m∈kids.toL:=by
     cases hl:kids.toL with
     |nil=>rw[hl]at b;simp at b
     |cons m l=>exact⟨m,av ..⟩
    obtain⟨r,v,e⟩:=c m hm;exact⟨m.1++r,v,.inr (gM.2 ⟨m,hm,r,rfl,e⟩)⟩
  ·exact pn h.2.2.2.2 n a
theorem rm{F:Fo}(h:ge F){k:List UInt8}{v:ByteArray}(hi:tF F k v):k≠[]:=by
 obtain⟨n,a,r,rfl,_⟩:=gM.1 hi;have:=((eT.1 h).2 n a).1;intro e;exact this (kU.1 e).1
theorem tT{F:Fo}(h:ge F){k:List UInt8}{v:ByteArray}(hi:tF F k v):∃n∈F.toL,hd n.1=hd k∧wr n k v:=by
 obtain⟨n,a,r,e,b⟩:=gM.1 hi;exact⟨n,a,by rw[e,qi ((eT.1 h).2 n a).1],r,e,b⟩
theorem zN{F:Fo}(h:ge F){m n:Bn}(hm:m∈F.toL)(f:n∈F.toL)(e:hd m.1=hd n.1):m=n:=by
 have c:=(eT.1 h).1;revert hm f;generalize F.toL=l at*;clear h;induction l with
 |nil=>intro hm;simp at hm
 |cons a l ih=>
  have c:=aA.1 c;intro hm f;rcases aB.1 hm with i|d
  ·rcases aB.1 f with g|b
   ·rw[i,g]
   ·have:=c.1 n b;rw[←i]at this;omega
  ·rcases aB.1 f with g|b
   ·have:=c.1 m d;rw[←g]at this;omega
   ·exact ih c.2 d b
def Br(P:List UInt8→ByteArray→Prop):Prop:=(∃v,P [] v)∨∃j k u v,P j u∧P k v∧j≠[]∧k≠[]∧hd j≠hd k
theorem Kp{w:Option ByteArray}{F:Fo}(h:ge F):(w.isSome∨2≤F.toL.length)↔Br (uY w F):=by
 constructor
 ·rintro(x|A)
  ·obtain⟨v,hv⟩:=jQ.1 x
   exact .inl ⟨v,.inl ⟨rfl,hv⟩⟩
  ·right
   have c:=pn h;have hc:=eT.1 h;match hL:F.toL,A with
   |a::b::l,_=>
    have f:a∈F.toL:=by rw[hL];simp
    have i:b∈F.toL:=by rw[hL];simp
    obtain⟨r,v,z⟩:=c a f;obtain⟨s,u,c⟩:=c b i;have p:=(hc.2 a f).1;have h2:=(hc.2 b i).1;have:=hc.1;rw[hL]at this;have C:=(aA.1 this).1 b (av ..);refine⟨a.1++r,b.1++s,v,u,.inr (gM.2 ⟨a,f,r,rfl,z⟩),.inr (gM.2 ⟨b,i,s,rfl,c⟩),?_,?_,?_⟩
    ·intro e;exact p (kU.1 e).1
    ·intro e;exact h2 (kU.1 e).1
    ·rw[qi p,qi h2];omega
 ·rintro(⟨v,hv⟩|⟨j,k,u,v,d,g,t,nk,B⟩)
  ·rcases hv with⟨_,hv⟩|hv
   ·left;rw[hv];rfl
   ·exact absurd rfl (rm h hv)
  ·right
   rcases d with⟨e,_⟩|d
   ·exact absurd e t
   rcases g with⟨e,_⟩|g
   ·exact absurd e nk
   obtain⟨m,hm,q,_⟩:=tT h d;obtain⟨n,o,y,_⟩:=tT h g;match hL:F.toL with
   | []=>rw[hL]at hm;simp at hm
   | [a]=>
    rw[hL]at hm o;rw[aF.1 hm]at q;rw[aF.1 o]at y;omega
   |a::b::l=>simp
end Go.Proofs
namespace Go.Proofs
theorem Vr{m n:Bn}(i:Br (uY m.2.1 m.2.2))(h:∀k v,wr m k v→wr n k v):∃t,m.1=n.1++t:=by
 rcases i with⟨v,hv⟩|⟨j,k,u,v,g,d,o,nk,b⟩
 ·obtain⟨r,e,_⟩:=h m.1 v ⟨[],(aL _).symm,hv⟩
  exact⟨r,e⟩
 ·obtain⟨r,e,_⟩:=h (m.1++j) u ⟨j,rfl,g⟩
  obtain⟨s,f,_⟩:=h (m.1++k) v ⟨k,rfl,d⟩;rcases List.append_eq_append_iff.1 e with⟨a,c,h2⟩|⟨a,c,h2⟩
  ·rw[c,ar]at f
   have f:=fk f;cases a with
   |nil=>exact⟨[],by rw[c];simp⟩
   |cons x a=>
    rw[h2]at b;rw[f]at b;exact absurd rfl b
  ·exact⟨a,c⟩
theorem TP:∀{F F':Fo},ge F→ge F'→(∀k v,tF F k v↔tF F' k v)→F=F'
 | .nil,.nil,_,_,_=>rfl
 | .nil,.cons lab w b c,_,h,he=>by
  obtain⟨r,v,i⟩:=pn h _ (av ..);exact((he _ v).2 (gM.2 ⟨_,av ..,r,rfl,i⟩)).elim
 | .cons lab w b c,.nil,h,_,he=>by
  obtain⟨r,v,i⟩:=pn h _ (av ..);exact((he _ v).1 (gM.2 ⟨_,av ..,r,rfl,i⟩)).elim
 | .cons lab w b c,.cons d g a f,h,h',he=>by
  have x:∀{lab w b c} {F:Fo},ge (.cons lab w b c)→ge F→(∀k v,tF F k v→tF (.cons lab w b c) k v)→∀n∈F.toL,hd lab≤hd n.1:=by
   intro lab w b c F h D hi n j;obtain⟨r,v,i⟩:=pn D n j;obtain⟨m,hm,e,_⟩:=tT h (hi _ v (gM.2 ⟨n,j,r,rfl,i⟩));rw[qi ((eT.1 D).2 n j).1]at e;rcases aB.1 hm with rfl|hm
   ·simp only at e;omega
   ·have:=h.2.2.2.1 m hm;omega
  have M:=x h h' (fun k v=>(he k v).2) _ (av ..)
  have O:=x h' h (fun k v=>(he k v).1) _ (av ..)
  simp only at M O;have q:hd lab=hd d:=by omega
  have z:∀{lab w b c d g a f},ge (.cons lab w b c)→ge (.cons d g a f)→hd lab=hd d→(∀k v,tF (.cons lab w b c) k v→tF (.cons d g a f) k v)→(∀k v,wr (lab,w,b) k v→wr (d,g,a) k v)∧(∀k v,tF c k v→tF f k v):=by
   intro lab w b c d g a f h h' q hi;refine⟨fun k v o=>?_,fun k v o=>?_⟩
   ·obtain⟨n,j,e,i⟩:=tT h' (hi k v (gM.2 ⟨_,av ..,o⟩))
    obtain⟨r,rfl,_⟩:=o;rw[qi h.1]at e;rw[←zN h' j (av ..) (by simp only;omega)];exact i
   ·obtain⟨m,hm,Q,_⟩:=tT h.2.2.2.2 o
    have:=h.2.2.2.1 m hm;obtain⟨n,j,e,i⟩:=tT h' (hi k v (Or.inr o));rcases aB.1 j with rfl|j
    ·simp only at e;omega
    ·exact gM.2 ⟨n,j,i⟩
  have⟨I,P⟩:=z h h' q fun k v=>(he k v).1
  have⟨E,L⟩:=z h' h q.symm fun k v=>(he k v).2
  have s:c=f:=TP h.2.2.2.2 h'.2.2.2.2 fun k v=>⟨P k v,L k v⟩
  obtain⟨t,B⟩:=Vr (m:=(lab,w,b)) (n:=(d,g,a)) ((Kp h.2.2.1).1 h.2.1) I;obtain⟨R,y⟩:=Vr (m:=(d,g,a)) (n:=(lab,w,b)) ((Kp h'.2.2.1).1 h'.2.1) E;simp only at B y;have u:lab=d:=by
   have:t= []:=by
    have N:=congrArg fy B;have h2:=congrArg fy y;rw[ac]at N h2;exact List.length_eq_zero_iff.1 (by omega)
   rw[B,this,aL]
  subst u;have A:∀{w b g a},(∀k v,wr (lab,w,b) k v→wr (lab,g,a) k v)→∀k v,uY w b k v→uY g a k v:=by
   intro w b g a j k v o;obtain⟨r,e,i⟩:=j (lab++k) v ⟨k,rfl,o⟩;rw[fk e];exact i
  have G:=A I;have J:=A E;have K:w=g:=by
   have H:∀{w b g a},ge a→(∀k v,uY w b k v→uY g a k v)→∀v,w=some v→g=some v:=by
    intro w b g a hc hi v hv;rcases hi [] v (.inl ⟨rfl,hv⟩)with⟨_,h⟩|h
    ·exact h
    ·exact absurd rfl (rm hc h)
   exact Option.ext fun v=>⟨H h'.2.2.1 G v,H h.2.2.1 J v⟩
  have C:∀{w b g a},ge b→(∀k v,uY w b k v→uY g a k v)→∀k v,tF b k v→tF a k v:=by
   intro w b g a hc hi k v o;rcases hi k v (.inr o)with⟨e,_⟩|h
   ·exact absurd e (rm hc o)
   ·exact h
  have p:b=a:=TP h.2.2.1 h'.2.2.1 fun k v=>⟨C h.2.2.1 G k v,C h'.2.2.1 J k v⟩
  rw[K,p,s]
def yl(P a:List UInt8→ByteArray→Prop)(k:List UInt8)(v:ByteArray):Prop:=∀k' v',a k' v'↔(k'=k∧v'=v)∨(k'≠k∧P k' v')
theorem MP{w:Option ByteArray}{F:Fo}(h:ge F)(v:ByteArray):yl (uY w F) (uY (some v) F) [] v:=by
 intro k' a;unfold uY;constructor
 ·rintro(⟨e,f⟩|hi)
  ·exact .inl ⟨e,(bQ.inj f).symm⟩
  ·exact .inr ⟨rm h hi,.inr hi⟩
 ·rintro(⟨e,f⟩|⟨e,⟨f,_⟩|hi⟩)
  ·exact .inl ⟨e,by rw[f]⟩
  ·exact absurd f e
  ·exact .inr hi
theorem F6{w:Option ByteArray}{F F':Fo}{k:List UInt8}{v:ByteArray}(b:k≠[])(h:yl (tF F) (tF F') k v):yl (uY w F) (uY w F') k v:=by
 intro k' c;unfold uY;rw[h k' c];constructor
 ·rintro(⟨e,f⟩|hi|hi)
  ·exact .inr ⟨fun a=>b (a.symm.trans e),.inl ⟨e,f⟩⟩
  ·exact .inl hi
  ·exact .inr ⟨hi.1,.inr hi.2⟩
 ·rintro(hi|⟨e,hi|hi⟩)
  ·exact .inr (.inl hi)
  ·exact .inl hi
  ·exact .inr (.inr ⟨e,hi⟩)
theorem Ws{F:Fo}{k:List UInt8}{v:ByteArray}{i:Nat}(h:ge F)(x:k≠[])(hi:∀j (d:j<F.toL.length),j<i→hd F.toL[j].1<hd k)(g:∀j (d:j<F.toL.length),i≤j→hd k<hd F.toL[j].1):ge (.ofL (F.toL.take i++(k,some v,.nil)::F.toL.drop i))∧yl (tF F) (tF (.ofL (F.toL.take i++(k,some v,.nil)::F.toL.drop i))) k v:=by
 have hc:=eT.1 h;have y:∀n∈F.toL.take i,hd n.1<hd k:=fun n c=>by
  obtain⟨j,d,e⟩:=bm c;rw[aI]at d;rw[←e,List.getElem_take];exact hi j (by omega) (by omega)
 have z:∀n∈F.toL.drop i,hd k<hd n.1:=fun n c=>by
  obtain⟨j,d,e⟩:=bm c;rw[aU]at d;rw[←e,List.getElem_drop];exact g _ (by omega) (by omega)
 have mem:∀n,n∈F.toL.take i++(k,some v,.nil)::F.toL.drop i↔n=(k,some v,Fo.nil)∨n∈F.toL:=fun n=>by
  conv=>rhs;rw[←aK i F.toL]
  simp only[List.mem_append,aB];exact⟨fun h=>h.elim (fun h=>.inr (.inl h)) fun h=>h.elim .inl fun h=>.inr (.inr h),fun h=>h.elim (fun h=>.inr (.inl h)) fun h=>h.elim .inl fun h=>.inr (.inr h)⟩
 refine⟨eT.2 ⟨?_,?_⟩,fun k' u=>?_⟩
 ·rw[Fo.to_of]
  have m:=hc.1;rw[←aK i F.toL,cr]at m;refine cr.2 ⟨m.1,aA.2 ⟨z,m.2.1⟩,fun a q b p=>?_⟩
  rcases aB.1 p with rfl|p
  ·exact y a q
  ·exact m.2.2 a q b p
 ·rw[Fo.to_of]
  intro n c;rcases(mem n).1 c with rfl|c
  ·exact⟨x,.inl rfl,trivial⟩
  ·exact hc.2 n c
 ·rw[gM,gM,Fo.to_of]
  constructor
  ·rintro⟨n,c,r,e,s⟩
   rcases(mem n).1 c with rfl|c
   ·rcases s with⟨rfl,f⟩|f
    ·exact .inl ⟨by rw[e];exact aL _,(bQ.inj f).symm⟩
    ·exact f.elim
   ·right
    refine⟨fun w=>?_,n,c,r,e,s⟩
    have A:hd k=hd n.1:=by rw[←w,e,qi (hc.2 n c).1]
    obtain⟨j,d,t⟩:=bm c;rcases bZ j i with o|o
    ·have:=hi j d o;rw[t]at this;omega
    ·have:=g j d o;rw[t]at this;omega
  ·rintro(⟨rfl,rfl⟩|⟨_,n,c,h⟩)
   ·exact⟨(k',some u,.nil),(mem _).2 (.inl rfl),[],(aL _).symm,.inl ⟨rfl,rfl⟩⟩
   ·exact⟨n,(mem _).2 (.inr c),h⟩
theorem pk{α:Type}{l:List α}{i:Nat}(hi:i<l.length){a x:α}(d:∀j (c:j<l.length),j≠i→l[j]≠l[i]):x∈l.set i a↔x=a∨(x∈l∧x≠l[i]):=by
 constructor
 ·intro h
  obtain⟨j,c,e⟩:=bm h;rw[List.length_set]at c;rw[List.getElem_set]at e;split at e
  ·exact .inl e.symm
  ·rename_i b
   exact .inr ⟨by rw[←e];exact bw c,by rw[←e];exact d j c fun e=>b e.symm⟩
 ·rintro(rfl|⟨h,b⟩)
  ·exact qt (i:=i) (h:=by simpa using hi) (by simp)
  ·obtain⟨j,c,e⟩:=bm h
   have:i≠j:=by rintro rfl;exact b e.symm
   exact qt (i:=j) (h:=by simpa using c) (by rw[List.getElem_set_ne this];exact e)
theorem VG{F:Fo}{i:Nat}{m:Bn}(h:ge F)(hi:i<F.toL.length)(hm:Mi m)(e:hd m.1=hd F.toL[i].1):ge (.ofL (F.toL.set i m)):=by
 have hc:=eT.1 h;rw[eT,Fo.to_of];refine⟨?_,fun n g=>?_⟩
 ·rw[ce]at hc⊢
  intro a b f d c;rw[List.length_set]at f d;rw[List.getElem_set,List.getElem_set];split
  ·rename_i ea;subst ea
   rw[if_neg (by omega),e];exact hc.1 _ _ f d c
  ·split
   ·rename_i eb;subst eb
    rw[e];exact hc.1 _ _ f d c
   ·exact hc.1 _ _ f d c
 ·rcases List.mem_or_eq_of_mem_set g with g|rfl
  ·exact hc.2 n g
  ·exact hm
theorem zq{F:Fo}(h:ge F){i:Nat}(hi:i<F.toL.length)(j:Nat)(c:j<F.toL.length)(b:j≠i):F.toL[j]≠F.toL[i]:=by
 have hc:=(eT.1 h).1;rw[ce]at hc;intro e;rcases Nat.lt_or_gt_of_ne b with a|a
 ·have:=hc j i c hi a;rw[e]at this;omega
 ·have:=hc i j hi c a;rw[e]at this;omega
theorem Qt{F:Fo}{i:Nat}{m:Bn}{k:List UInt8}{v:ByteArray}(h:ge F)(hi:i<F.toL.length)(ek:hd F.toL[i].1=hd k)(f:yl (wr F.toL[i]) (wr m) k v):yl (tF F) (tF (.ofL (F.toL.set i m))) k v:=by
 intro k' d;have hc:=eT.1 h;rw[gM,gM,Fo.to_of];constructor
 ·rintro⟨n,b,c⟩
  rcases(pk hi (zq h hi)).1 b with rfl|⟨b,g⟩
  ·rcases(f k' d).1 c with a|⟨a,h2⟩
   ·exact .inl a
   ·exact .inr ⟨a,_,bw hi,h2⟩
  ·refine .inr ⟨fun e=>g ?_,n,b,c⟩
   obtain⟨r,j,_⟩:=c;refine zN h b (bw hi) ?_;rw[ek,←e,j,qi (hc.2 n b).1]
 ·rintro(a|⟨a,n,b,c⟩)
  ·exact⟨m,(pk hi (zq h hi)).2 (.inl rfl),(f k' d).2 (.inl a)⟩
  ·by_cases e:n=F.toL[i]
   ·exact⟨m,(pk hi (zq h hi)).2 (.inl rfl),(f k' d).2 (.inr ⟨a,by rw[←e];exact c⟩)⟩
   ·exact⟨n,(pk hi (zq h hi)).2 (.inr ⟨b,e⟩),c⟩
theorem Wq{lab r:List UInt8}{w f:Option ByteArray}{F F':Fo}{v:ByteArray}(h:yl (uY w F) (uY f F') r v):yl (wr (lab,w,F)) (wr (lab,f,F')) (lab++r) v:=by
 intro k' a;constructor
 ·rintro⟨s,e,d⟩
  rcases(h s a).1 d with⟨rfl,rfl⟩|⟨b,h2⟩
  ·exact .inl ⟨e,rfl⟩
  ·exact .inr ⟨fun c=>b (fk (e.symm.trans c)),s,e,h2⟩
 ·rintro(⟨rfl,rfl⟩|⟨b,s,e,d⟩)
  ·exact⟨r,rfl,(h r a).2 (.inl ⟨rfl,rfl⟩)⟩
  ·exact⟨s,e,(h s a).2 (.inr ⟨fun c=>b (by rw[e,c]),d⟩)⟩
def cm:List UInt8→List UInt8→Nat
 |a::x,b::y=>if a=b then cm x y+1 else 0
 |_,_=>0
theorem VF:∀(x y:List UInt8),cm x y≤x.length∧cm x y≤y.length
 | [],_=>by simp[cm]
 |_::_,[]=>by simp[cm]
 |a::x,b::y=>by unfold cm;have:=VF x y;split<;>simp<;>omega
theorem VD:∀(x y:List UInt8),x.take (cm x y)=y.take (cm x y)
 | [],_=>by simp[cm]
 |_::_,[]=>by simp[cm]
 |a::x,b::y=>by
  unfold cm;split
  ·rename_i e;rw[eA,eA,VD x y,e]
  ·simp
theorem OW:∀(x y:List UInt8),cm x y<x.length→cm x y<y.length→hd (x.drop (cm x y))≠hd (y.drop (cm x y))
 | [],_=>by simp[cm]
 |_::_,[]=>by simp[cm]
 |a::x,b::y=>by
  unfold cm;split
  ·rename_i e
   intro c h2;rw[List.length_cons]at c h2;rw[iV,iV];exact OW x y (by omega) (by omega)
  ·rename_i e
   intro _ _ h;exact e (nX.1 h)
theorem Y9{x y:List UInt8}(hx:x≠[])(c:y≠[])(h:hd x=hd y):0<cm x y:=by
 match x,y,hx,c with
 |a::x,b::y,_,_=>
  unfold cm;rw[if_pos (show a=b from nX.1 h)]
  omega
theorem Nd{lab:List UInt8}{w:Option ByteArray}{F:Fo}(c:Nat):∀k v,wr (lab.take c,none,.cons (lab.drop c) w F .nil) k v↔wr (lab,w,F) k v:=by
 intro k v;constructor
 ·rintro⟨r,e,⟨_,h⟩|(⟨s,rfl,h⟩|h)⟩
  ·cases h
  ·exact⟨s,by rw[e];simp only;rw[←ar,aK],h⟩
  ·exact h.elim
 ·rintro⟨s,e,h⟩
  exact⟨lab.drop c++s,by rw[e];simp only;rw[←ar,aK],.inr (.inl ⟨s,rfl,h⟩)⟩
theorem Zi{lab r:List UInt8}{w d:Option ByteArray}{F F':Fo}{v:ByteArray}(c:lab≠[])(i:w.isSome∨2≤F.toL.length)(j:ge F)(a:r≠[]→hd r≠hd lab)(h:yl (uY none (.cons lab w F .nil)) (uY d F') r v):Br (uY d F'):=by
 by_cases e:r= []
 ·subst e
  exact .inl ⟨v,(h [] v).2 (.inl ⟨rfl,rfl⟩)⟩
 ·have hc:ge (.cons lab w F .nil):=⟨c,i,j,fun n k=>by simp[Fo.toL]at k,trivial⟩
  obtain⟨s,u,g⟩:=pn hc _ (av ..);simp only at g;have f:hd (lab++s)=hd lab:=qi c;refine .inr ⟨r,lab++s,v,u,(h r v).2 (.inl ⟨rfl,rfl⟩),(h _ u).2 (.inr ⟨fun b=>a e (by rw[←b,f]),.inr (.inl ⟨s,rfl,g⟩)⟩),e,fun b=>c (kU.1 b).1,by rw[f];exact a e⟩
theorem aa0{P d:List UInt8→ByteArray→Prop}{k:List UInt8}{v:ByteArray}(g:Br P)(h:yl P d k v):Br d:=by
 have keep:∀j u,P j u→∃c,d j c:=fun j u f=>by
  by_cases e:j=k
  ·exact⟨v,(h j v).2 (.inl ⟨e,rfl⟩)⟩
  ·exact⟨u,(h j u).2 (.inr ⟨e,f⟩)⟩
 rcases g with⟨u,i⟩|⟨j,k',u,c,f,n,r⟩
 ·obtain⟨c,h'⟩:=keep [] u i
  exact .inl ⟨c,h'⟩
 ·obtain⟨a,m⟩:=keep j u f
  obtain⟨b,g⟩:=keep k' c n;exact .inr ⟨j,k',a,b,m,g,r⟩
end Go.Proofs
namespace Go.Proofs
open Go.Lift
theorem FP(n:Int):0≤IntKind.wrap .u64 n∧IntKind.wrap .u64 n<18446744073709551616:=by rw[IntKind.wrap_u64];omega
theorem dI{x:Int}(h: -4611686018427387904≤x∧x≤4611686018427387904):IntKind.wrap .i64 x=x:=Go.IntWalk.i64_in _ (by omega)
theorem db{i n:Nat}(h:i<n)(a:n≤4611686018427387904):IntKind.wrap .i64 ((i:Int)+1)=((i+1:Nat):Int):=by rw[dI (by omega)];omega
theorem wK{h:ad}{b i:Nat}{c:Array Value}{t:TypeId}{v:Value}{k:ad→Prop}(a:h[b]? =some (.cells c t (0,0)))
  (d:∀h',h'[b]? =some (.cells (c.setIfInBounds i v) t (0,0))→Upd (· =b) h h'→k h'):At (hset h ⟨b,i,none⟩ v) k:=by
 refine d _ ?_ (Upd.hset _ _ rfl);rw[yD a,jZ a]
def Ro(a b:Int):Int:=IntKind.wrap .u64 (aq (IntKind.bits .u64) a&&&aq (IntKind.bits .u64) b).toNat
def dY(a b:Int):Int:=IntKind.wrap .u64 (aq (IntKind.bits .u64) a^^^aq (IntKind.bits .u64) b).toNat
def Jy(a b:Int):Int:=IntKind.wrap .u64 (aq (IntKind.bits .u64) a|||aq (IntKind.bits .u64) b).toNat
def Ji(x n:Int):Int:=
 Jy (IntKind.wrap .u64 (x*2^(min (Ro (IntKind.wrap .u64 n) 63).toNat (IntKind.bits .u64)))) (Int.fdiv x (2^(min (IntKind.wrap .u64 (64-Ro (IntKind.wrap .u64 n) 63)).toNat (IntKind.bits .u64))))
theorem F0{x n:Int}{h:ad}{K:Int→ad→Prop}(a:K (Ji x n) h):HC PG dW [.int .u64 x,.int .i64 n] [.c (.int .u64)] K h:=by
 refine ym x n ?_;unfold qL;exact⟨(FP _).1,(FP _).1,a⟩
abbrev Q4:=Int×Int×Int×Int
def q4(s:Q4):Array Value:= #[.int .u64 s.1,.int .u64 s.2.1,.int .u64 s.2.2.1,.int .u64 s.2.2.2]
def Zw(a b:Int):Int:=IntKind.wrap .u64 (a+b)
def ZP(s:Q4):Q4:=(Zw s.1 s.2.1,s.2)
def aag(s:Q4):Q4:=(s.1,dY (Ji s.2.1 13) s.1,s.2.2)
def abc(s:Q4):Q4:=(Ji s.1 32,s.2)
def abH(s:Q4):Q4:=(s.1,s.2.1,Zw s.2.2.1 s.2.2.2,s.2.2.2)
def aci(s:Q4):Q4:=(s.1,s.2.1,s.2.2.1,dY (Ji s.2.2.2 16) s.2.2.1)
def acD(s:Q4):Q4:=(Zw s.1 s.2.2.2,s.2)
def ac9(s:Q4):Q4:=(s.1,s.2.1,s.2.2.1,dY (Ji s.2.2.2 21) s.1)
def adl(s:Q4):Q4:=(s.1,s.2.1,Zw s.2.2.1 s.2.1,s.2.2.2)
def s09(s:Q4):Q4:=(s.1,dY (Ji s.2.1 17) s.2.2.1,s.2.2)
def abG(s:Q4):Q4:=(s.1,s.2.1,Ji s.2.2.1 32,s.2.2.2)
def ng(s:Q4):Q4:=abG (s09 (adl (ac9 (acD (aci (abH (abc (aag (ZP s)))))))))
def rZ:Nat→Q4→Q4
 |0,s=>s
 |n+1,s=>rZ n (ng s)
theorem tQ{h:ad}{b i:Nat}{t:TypeId}{s s':Q4}{v:Value}{k:ad→Prop}(d:h[b]? =some (.cells (q4 s) t (0,0))) (e:(q4 s).setIfInBounds i v=q4 s')
  (c:∀h',h'[b]? =some (.cells (q4 s') t (0,0))→Upd (· =b) h h'→k h'):At (hset h ⟨b,i,none⟩ v) k:=
 wK d fun h' a f=>c h' (e▸a) f
theorem MI{n:Nat}(hn:n≤100){h:ad}{b:Nat}{t:TypeId}{s:Q4}(y:h[b]? =some (.cells (q4 s) t (0,0))) {K:Unit→ad→Prop}
  (P:∀h',h'[b]? =some (.cells (q4 (rZ n s)) t (0,0))→Upd (· =b) h h'→K () h'):HC PG lz [.pointer (some ⟨b,0,none⟩),.int .i64 n] [] K h:=by
 refine DN _ _ ?_;unfold wR bE bX dG od;refine LoopP.ghost (fun(g:Nat×Q4) (N:Int) h'=>N=(g.1:Int)∧g.1≤n∧h'[b]? =some (.cells (q4 g.2) t (0,0))∧Upd (· =b) h h'∧rZ (n-g.1) g.2=rZ n s) (fun g=>n-g.1) (0,s) ⟨rfl,Nat.zero_le _,y,Upd.refl _ _,rfl⟩ ?_
 rintro I ⟨i,d⟩ N h' ⟨O,hi,a,M,x⟩ Q;simp only at O hi a x;subst O;refine ax (fun u=>?_) fun R=>?_
 ·have u:i<n:=by omega
  have c:∀{h:ad} {s:Q4} {i:Nat},h[b]? =some (.cells (q4 s) t (0,0))→aO h ⟨b,0+i,none⟩=(q4 s)[i]?:=fun y=>by rw[aQ];exact bF y
  have w:∀{h:ad} {s:Q4} {i:Nat},h[b]? =some (.cells (q4 s) t (0,0))→i<4→Wr h ⟨b,0+i,none⟩:=fun y hi=>by rw[aQ];exact iw y hi
  simp only[show((0:Int)).toNat*1=0 from rfl,show((1:Int)).toNat*1=1 from rfl,show((2:Int)).toNat*1=2 from rfl,show((3:Int)).toNat*1=3 from rfl]
  refine⟨_,rfl,by decide,_,c (i:=0) a,_,rfl,by decide,_,c (i:=1) a,_,rfl,by decide,w (i:=0) a (by decide),tQ (s':=ZP d) a rfl fun h2 m E=>?_⟩
  refine⟨_,rfl,by decide,_,c (i:=1) m,_,rfl,by decide,_,c (i:=0) m,_,rfl,F0 ⟨c (i:=0) m,by decide,w (i:=1) m (by decide),tQ (s':=aag (ZP d)) m rfl fun X v L=>?_⟩⟩
  refine⟨_,rfl,by decide,_,c (i:=0) v,_,rfl,F0 ⟨by decide,w (i:=0) v (by decide),tQ (s':=abc (aag (ZP d))) v rfl fun h4 p H=>?_⟩⟩
  refine⟨_,rfl,by decide,_,c (i:=2) p,_,rfl,by decide,_,c (i:=3) p,_,rfl,by decide,w (i:=2) p (by decide),tQ (s':=abH (abc (aag (ZP d)))) p rfl fun W e D=>?_⟩
  refine⟨_,rfl,by decide,_,c (i:=3) e,_,rfl,by decide,_,c (i:=2) e,_,rfl,F0 ⟨c (i:=2) e,by decide,w (i:=3) e (by decide),tQ (s':=aci (abH (abc (aag (ZP d))))) e rfl fun Y q F=>?_⟩⟩
  refine⟨_,rfl,by decide,_,c (i:=0) q,_,rfl,by decide,_,c (i:=3) q,_,rfl,by decide,w (i:=0) q (by decide),tQ (s':=acD (aci (abH (abc (aag (ZP d)))))) q rfl fun V f J=>?_⟩
  refine⟨_,rfl,by decide,_,c (i:=3) f,_,rfl,by decide,_,c (i:=0) f,_,rfl,F0 ⟨c (i:=0) f,by decide,w (i:=3) f (by decide),tQ (s':=ac9 (acD (aci (abH (abc (aag (ZP d))))))) f rfl fun Z o C=>?_⟩⟩
  refine⟨_,rfl,by decide,_,c (i:=2) o,_,rfl,by decide,_,c (i:=1) o,_,rfl,by decide,w (i:=2) o (by decide),tQ (s':=adl (ac9 (acD (aci (abH (abc (aag (ZP d)))))))) o rfl fun U j G=>?_⟩
  refine⟨_,rfl,by decide,_,c (i:=1) j,_,rfl,by decide,_,c (i:=2) j,_,rfl,F0 ⟨c (i:=2) j,by decide,w (i:=1) j (by decide),tQ (s':=s09 (adl (ac9 (acD (aci (abH (abc (aag (ZP d))))))))) j rfl fun S k z=>?_⟩⟩
  refine⟨_,rfl,by decide,_,c (i:=2) k,_,rfl,F0 ⟨by decide,w (i:=2) k (by decide),tQ (s':=ng d) k rfl fun T A B=>?_⟩⟩
  rw[db u (by omega)];refine Q (i+1,ng d) _ _ ⟨rfl,u,A,M.tr (E.tr (L.tr (H.tr (D.tr (F.tr (J.tr (C.tr (G.tr (z.tr B))))))))),?_⟩ (by simp only;omega);simp only;rw[←x,show n-i=(n-(i+1))+1 by omega];rfl
 ·obtain rfl:i=n:=by omega
  rw[Nat.sub_self]at x;have x:d=rZ i s:=x;rw[←x]at P;exact P _ a M
end Go.Proofs
namespace Go.Proofs
open Go.Lift
def Rl(s:ByteArray)(i:Nat):Int:=match s[i]? with|some b=>(b.toNat:Int)|none=>0
def abb(b:Int)(n:Int):Int:=IntKind.wrap .u64 ((IntKind.wrap .u64 b)*2^(min n.toNat (IntKind.bits .u64)))
def wj(s:ByteArray):Nat→Int→Int
 |0,t=>t
 |k+1,t=>wj s k (Jy t (if k=0 then IntKind.wrap .u64 (Rl s 0)else abb (Rl s k) ((8*k:Nat):Int)))
def Co(s:ByteArray):Int:=wj s s.size 0
theorem xx{s:ByteArray}{i:Nat}(h:i<s.size):∃b,s[i]? =some b∧Rl s i=(b.toNat:Int):=⟨s[i],getElem?_pos s i h,by simp[Rl,getElem?_pos s i h]⟩
theorem UM{s:ByteArray}(I:s.size≤8){h:ad}{K:Int→ad→Prop}(f:K (Co s) h):HC PG zA [.string s] [.c (.int .u64)] K h:=by
 refine Uc s ?_;unfold KO;refine Join.intro (fun t h'=>h'=h∧1≤s.size∧wj s 1 t=wj s s.size 0) (fun G o=>?_) ?_
 ·refine Join.intro (fun t h'=>h'=h∧2≤s.size∧wj s 2 t=wj s s.size 0) (fun R2 p=>?_) ?_
  ·refine Join.intro (fun t h'=>h'=h∧3≤s.size∧wj s 3 t=wj s s.size 0) (fun N n=>?_) ?_
   ·refine Join.intro (fun t h'=>h'=h∧4≤s.size∧wj s 4 t=wj s s.size 0) (fun F g=>?_) ?_
    ·refine Join.intro (fun t h'=>h'=h∧5≤s.size∧wj s 5 t=wj s s.size 0) (fun D m=>?_) ?_
     ·refine Join.intro (fun t h'=>h'=h∧6≤s.size∧wj s 6 t=wj s s.size 0) (fun M k=>?_) ?_
      ·refine Join.intro (fun t h'=>h'=h∧7≤s.size∧wj s 7 t=wj s s.size 0) (fun E j=>?_) ?_
       ·refine CondP.intro (fun e=>?_) fun w=>?_
        ·have e:s.size=8:=by have:=of_decide_eq_true (by simpa using e:decide ((s.size:Int)=8)=true);omega
         obtain⟨b,a,hv⟩:=xx (s:=s) (i:=7) (by omega);refine⟨b,by decide,a,by decide,j _ _ ⟨rfl,by omega,?_⟩⟩
         rw[e,←hv];rfl
        refine CondP.intro (fun e=>?_) fun v=>?_
        ·have e:s.size=7:=by have:=of_decide_eq_true (by simpa using e:decide ((s.size:Int)=7)=true);omega
         exact j _ _ ⟨rfl,by omega,by rw[e]⟩
        refine CondP.intro (fun e=>?_) fun A=>?_
        ·have e:s.size=6:=by have:=of_decide_eq_true (by simpa using e:decide ((s.size:Int)=6)=true);omega
         exact k _ _ ⟨rfl,by omega,by rw[e]⟩
        refine CondP.intro (fun e=>?_) fun z=>?_
        ·have e:s.size=5:=by have:=of_decide_eq_true (by simpa using e:decide ((s.size:Int)=5)=true);omega
         exact m _ _ ⟨rfl,by omega,by rw[e]⟩
        refine CondP.intro (fun e=>?_) fun x=>?_
        ·have e:s.size=4:=by have:=of_decide_eq_true (by simpa using e:decide ((s.size:Int)=4)=true);omega
         exact g _ _ ⟨rfl,by omega,by rw[e]⟩
        refine CondP.intro (fun e=>?_) fun q=>?_
        ·have e:s.size=3:=by have:=of_decide_eq_true (by simpa using e:decide ((s.size:Int)=3)=true);omega
         exact n _ _ ⟨rfl,by omega,by rw[e]⟩
        refine CondP.intro (fun e=>?_) fun y=>?_
        ·have e:s.size=2:=by have:=of_decide_eq_true (by simpa using e:decide ((s.size:Int)=2)=true);omega
         exact p _ _ ⟨rfl,by omega,by rw[e]⟩
        refine CondP.intro (fun e=>?_) fun u=>?_
        ·have e:s.size=1:=by have:=of_decide_eq_true (by simpa using e:decide ((s.size:Int)=1)=true);omega
         exact o _ _ ⟨rfl,by omega,by rw[e]⟩
        have e:s.size=0:=by
         have C:¬(s.size:Int)=1:=by simpa using u
         have L:¬(s.size:Int)=2:=by simpa using y
         have H:¬(s.size:Int)=3:=by simpa using q
         have q4:¬(s.size:Int)=4:=by simpa using x
         have O:¬(s.size:Int)=5:=by simpa using z
         have B:¬(s.size:Int)=6:=by simpa using A
         have J:¬(s.size:Int)=7:=by simpa using v
         have P:¬(s.size:Int)=8:=by simpa using w
         omega
        unfold Co at f;rw[e]at f;exact f
       ·rintro t _ ⟨rfl,c,d⟩
        obtain⟨b,a,hv⟩:=xx (s:=s) (i:=6) (by omega);refine⟨b,by decide,a,by decide,k _ _ ⟨rfl,by omega,?_⟩⟩
        rw[←d,←hv];rfl
      ·rintro t _ ⟨rfl,c,d⟩
       obtain⟨b,a,hv⟩:=xx (s:=s) (i:=5) (by omega);refine⟨b,by decide,a,by decide,m _ _ ⟨rfl,by omega,?_⟩⟩
       rw[←d,←hv];rfl
     ·rintro t _ ⟨rfl,c,d⟩
      obtain⟨b,a,hv⟩:=xx (s:=s) (i:=4) (by omega);refine⟨b,by decide,a,by decide,g _ _ ⟨rfl,by omega,?_⟩⟩
      rw[←d,←hv];rfl
    ·rintro t _ ⟨rfl,c,d⟩
     obtain⟨b,a,hv⟩:=xx (s:=s) (i:=3) (by omega);refine⟨b,by decide,a,by decide,n _ _ ⟨rfl,by omega,?_⟩⟩
     rw[←d,←hv];rfl
   ·rintro t _ ⟨rfl,c,d⟩
    obtain⟨b,a,hv⟩:=xx (s:=s) (i:=2) (by omega);refine⟨b,by decide,a,by decide,p _ _ ⟨rfl,by omega,?_⟩⟩
    rw[←d,←hv];rfl
  ·rintro t _ ⟨rfl,c,d⟩
   obtain⟨b,a,hv⟩:=xx (s:=s) (i:=1) (by omega);refine⟨b,by decide,a,by decide,o _ _ ⟨rfl,by omega,?_⟩⟩
   rw[←d,←hv];rfl
 ·rintro t _ ⟨rfl,c,d⟩
  obtain⟨b,a,hv⟩:=xx (s:=s) (i:=0) (by omega);refine⟨b,by decide,a,?_⟩
  unfold Co at f;rw[←d]at f;rw[←hv];exact f
end Go.Proofs
namespace Go.Proofs
open Go.Lift
def vx(m:Int)(s:Q4):Q4:=
 let r:=rZ 2 (s.1,s.2.1,s.2.2.1,dY s.2.2.2 m)
 (dY r.1 m,r.2)
theorem UT{m:Int}{h:ad}{b:Nat}{t:TypeId}{s:Q4}(d:h[b]? =some (.cells (q4 s) t (0,0))) {K:Unit→ad→Prop}
  (j:∀h',h'[b]? =some (.cells (q4 (vx m s)) t (0,0))→Upd (· =b) h h'→K () h'):HC PG pL [.pointer (some ⟨b,0,none⟩),.int .u64 m] [] K h:=by
 refine GA _ _ ?_;unfold yZ bE bX vu dG;have c:∀{h:ad} {s:Q4} {i:Nat},h[b]? =some (.cells (q4 s) t (0,0))→aO h ⟨b,0+i,none⟩=(q4 s)[i]?:=fun d=>by rw[aQ];exact bF d
 have w:∀{h:ad} {s:Q4} {i:Nat},h[b]? =some (.cells (q4 s) t (0,0))→i<4→Wr h ⟨b,0+i,none⟩:=fun d hi=>by rw[aQ];exact iw d hi
 simp only[show((0:Int)).toNat*1=0 from rfl,show((3:Int)).toNat*1=3 from rfl]
 refine⟨_,rfl,by decide,_,c (i:=3) d,_,rfl,by decide,w (i:=3) d (by decide),tQ (s':=(s.1,s.2.1,s.2.2.1,dY s.2.2.2 m)) d rfl fun h2 o e=>?_⟩
 refine MI (n:=2) (by omega) o fun u a k=>?_
 have p:vx m s=(dY (rZ 2 (s.1,s.2.1,s.2.2.1,dY s.2.2.2 m)).1 m,(rZ 2 (s.1,s.2.1,s.2.2.1,dY s.2.2.2 m)).2):=by unfold vx;rfl
 rw[p]at j;generalize rZ 2 (s.1,s.2.1,s.2.2.1,dY s.2.2.2 m)=r at a j;refine⟨_,rfl,by decide,_,c (i:=0) a,_,rfl,by decide,w (i:=0) a (by decide),tQ (s':=(dY r.1 m,r.2)) a rfl fun q g f=>?_⟩
 exact j _ g (e.tr (k.tr f))
def GW:Nat→ByteArray→Q4→ByteArray×Q4
 |0,s,q=>(s,q)
 |n+1,s,q=>if 8≤s.size then GW n (s.extract 8 s.size) (vx (Co (s.extract 0 8)) q)else(s,q)
def ab2(r:Q4):Int:=dY (dY (dY r.1 r.2.1) r.2.2.1) r.2.2.2
def aaP(q:Q4):Int:=ab2 (rZ 4 (q.1,q.2.1,dY q.2.2.1 255,q.2.2.2))
def acB(n:Nat)(g:ByteArray×Q4):Int:=aaP (vx (Jy (Co g.1) (abb (n:Int) 56)) g.2)
def Su(k0 k1:Int)(s:ByteArray):Int:=
 acB s.size (GW s.size s (dY k0 8317987319222330741,dY k1 7237128888997146477,dY k0 7816392313619706465,dY k1 8387220255154660723))
theorem aaQ{a:ad}{b:Nat}{t:TypeId}{r:Q4}(g:a[b]? =some (.cells (q4 r) t (0,0))) {K:Int→Prop} (f:K (ab2 r)):
  (((0:Int)≤(0:Int)∧(0:Int)<((4:Nat):Int))∧
   ∃v30:Int,aO a (adr ⟨b,0,none⟩ ((0:Int).toNat*1))=some (.int .u64 v30)∧
   (((0:Int)≤(1:Int)∧(1:Int)<((4:Nat):Int))∧
    ∃v31:Int,aO a (adr ⟨b,0,none⟩ ((1:Int).toNat*1))=some (.int .u64 v31)∧
    Bd (IntKind.wrap .u64 (aq (IntKind.bits .u64) v30^^^aq (IntKind.bits .u64) v31).toNat:Int) (fun n32=>
     (((0:Int)≤(2:Int)∧(2:Int)<((4:Nat):Int))∧
      ∃v33:Int,aO a (adr ⟨b,0,none⟩ ((2:Int).toNat*1))=some (.int .u64 v33)∧
      Bd (IntKind.wrap .u64 (aq (IntKind.bits .u64) n32^^^aq (IntKind.bits .u64) v33).toNat:Int) (fun d=>
       (((0:Int)≤(3:Int)∧(3:Int)<((4:Nat):Int))∧
        ∃v35:Int,aO a (adr ⟨b,0,none⟩ ((3:Int).toNat*1))=some (.int .u64 v35)∧
        Bd (IntKind.wrap .u64 (aq (IntKind.bits .u64) d^^^aq (IntKind.bits .u64) v35).toNat:Int) (fun e=>
         K e))))))):=by
 have c:∀{i:Nat},aO a ⟨b,0+i,none⟩=(q4 r)[i]?:=by intro i;rw[aQ];exact bF g
 exact⟨by decide,_,c (i:=0),by decide,_,c (i:=1),by decide,_,c (i:=2),by decide,_,c (i:=3),f⟩
theorem aaO{a:ad}{b:Nat}{t:TypeId}{q:Q4}(k:a[b]? =some (.cells (q4 q) t (0,0))) {K:Unit→ad→Prop}
  (p:∀h',h'[b]? =some (.cells (q4 (rZ 4 (q.1,q.2.1,dY q.2.2.1 255,q.2.2.2))) t (0,0))→Upd (· =b) a h'→K () h'):
  (((0:Int)≤(2:Int)∧(2:Int)<((4:Nat):Int))∧
   ∃v25:Int,aO a (adr ⟨b,0,none⟩ ((2:Int).toNat*1))=some (.int .u64 v25)∧
   Bd (IntKind.wrap .u64 (aq (IntKind.bits .u64) v25^^^aq (IntKind.bits .u64) 255).toNat:Int) (fun e=>
    (((0:Int)≤(2:Int)∧(2:Int)<((4:Nat):Int))∧
     (Wr a (adr ⟨b,0,none⟩ ((2:Int).toNat*1))∧
      At (hset a (adr ⟨b,0,none⟩ ((2:Int).toNat*1)) (.int .u64 e)) (fun d=>
       HC PG lz [.pointer (some ⟨b,0,none⟩),.int .i64 4] [] K d))))):=by
 have c:∀{i:Nat},aO a ⟨b,0+i,none⟩=(q4 q)[i]?:=by intro i;rw[aQ];exact bF k
 refine⟨by decide,_,c (i:=2),by decide,by rw[show((2:Int)).toNat*1=2 from rfl,cp];exact iw k (by simp[q4]),?_⟩
 refine tQ (s':=(q.1,q.2.1,dY q.2.2.1 255,q.2.2.2)) k rfl fun s j m=>?_
 exact MI (n:=4) (by omega) j fun o g f=>p o g (m.tr f)
theorem bM{h:ad}{k:ad→Prop}(a:k h):At h k:=a
theorem abD{k0 k1:Int}{s:ByteArray}{h:ad}{K:Int→ad→Prop}(C:∀h',Upd No h h'→K (Su k0 k1 s) h'):HC PG Gi [.agg #[.int .u64 k0,.int .u64 k1],.string s] [.c (.int .u64)] K h:=by
 refine Xi (k0,k1) s ?_;unfold NJ bE bX af nv vu dG acF VO VR ZV;have t:=Upd.hnew No h [.int .u64 k0,.int .u64 k1] nZ;have b1:=cq h [.int .u64 k0,.int .u64 k1] nZ;have H:=jw h [.int .u64 k0,.int .u64 k1] nZ;refine bM ?_;simp only[cR h];generalize hnew h [.int .u64 k0,.int .u64 k1] nZ=h1 at t b1 H;refine⟨k0,by rw[cp,bF b1];rfl,k1,by rw[cp,bF b1];rfl,k0,by rw[cp,bF b1];rfl,k1,by rw[cp,bF b1];rfl,?_⟩
 have E:=Upd.hnew No h1 [.int .u64 0,.int .u64 0,.int .u64 0,.int .u64 0] lX;have b2:=cq h1 [.int .u64 0,.int .u64 0,.int .u64 0,.int .u64 0] lX;simp only[cR h1];simp only[Bd];refine bM ?_;refine⟨.inr ⟨_,rfl,fun j J=>by rw[cp];exact iw b2 (by simp at J⊢;omega)⟩,?_⟩
 refine bM ?_;rw[lS _ _ 0 0 _ b2 (by simp)];have b3:=jZ (o:=.cells (q4 (dY k0 8317987319222330741,dY k1 7237128888997146477,dY k0 7816392313619706465,dY k1 8387220255154660723)) lX (0,0)) b2;have D:Upd No h _:=t.tr (E.trans (M':=(· =h1.size)) (Upd.set (hnew h1 [.int .u64 0,.int .u64 0,.int .u64 0,.int .u64 0] lX) (.cells (q4 (dY k0 8317987319222330741,dY k1 7237128888997146477,dY k0 7816392313619706465,dY k1 8387220255154660723)) lX (0,0)) rfl) fun b a=>.inr (Nat.le_of_eq a.symm))
 refine LoopP.ghost (fun(g:Nat×Q4) (d:ByteArray) h'=>d.size≤g.1∧h'[h1.size]? =some (.cells (q4 g.2) lX (0,0))∧Upd No h h'∧GW g.1 d g.2=GW s.size s (dY k0 8317987319222330741,dY k1 7237128888997146477,dY k0 7816392313619706465,dY k1 8387220255154660723)) (fun g=>g.1) (s.size,_)
  ⟨aj _,b3,D,rfl⟩ ?_
 rintro I ⟨n,q⟩ d h' ⟨L,a,A,p⟩ F;simp only at L a p;have f:∀b,b=h1.size→No b∨h.size≤b:=fun b a=>.inr (by omega)
 refine ax (fun u=>?_) fun x=>?_
 ·have u:8≤d.size:=by omega
  cases n with
  |zero=>omega
  |succ n=>
   refine⟨by omega,UM (by rw[gC];show min 8 _-0≤8;omega) (UT a fun h2 e k=>⟨by omega,?_⟩)⟩
   have G:((8:Int)).toNat=8:=rfl;rw[G]at e⊢;refine F (n,vx (Co (d.extract 0 8)) q) _ _ ⟨by simp only[gC];omega,e,A.trans k f,?_⟩ (by simp only;omega);rw[←p];simp only[GW,if_pos u]
 ·have x:d.size<8:=by omega
  have p:(d,q)=GW s.size s (dY k0 8317987319222330741,dY k1 7237128888997146477,dY k0 7816392313619706465,dY k1 8387220255154660723):=by
   rw[←p];cases n with
   |zero=>rfl
   |succ n=>simp only[GW,if_neg (show ¬8≤d.size by omega)]
  have c:∀{h:ad} {s:Q4} {i:Nat},h[h1.size]? =some (.cells (q4 s) lX (0,0))→aO h ⟨h1.size,0+i,none⟩=(q4 s)[i]?:=fun a=>by rw[aQ];exact bF a
  have w:∀{h:ad} {s:Q4} {i:Nat},h[h1.size]? =some (.cells (q4 s) lX (0,0))→i<4→Wr h ⟨h1.size,0+i,none⟩:=fun a hi=>by rw[aQ];exact iw a hi
  have v:Su k0 k1 s=aaP (vx (Jy (Co d) (abb (s.size:Int) 56)) q):=by unfold Su;rw[←p];rfl
  rw[v]at C;refine UM (by omega) ⟨by decide,UT (m:=Jy (Co d) (abb (s.size:Int) 56)) a fun h2 e k=>?_⟩
  refine aaO e fun B y z=>aaQ (K:=fun n=>K n B) y ?_
  exact C B ((A.trans k f).trans z f)
structure Hs where
 k0:Int
 k1:Int
 mask:Int
def eP(h:Hs)(s:ByteArray):Int:=Ro (Su h.k0 h.k1 s) h.mask
theorem vN{x:Hs}{s:ByteArray}{h:ad}{K:Int→ad→Prop}(c:∀h',Upd No h h'→K (eP x s) h'):HC PG eJ [.agg #[.int .u64 x.k0,.int .u64 x.k1,.int .u64 x.mask],.string s] [.c (.int .u64)] K h:=by
 refine E1 (x.k0,x.k1,x.mask) s ?_;unfold xF af BK df act;have a:=Upd.hnew No h [.int .u64 x.k0,.int .u64 x.k1,.int .u64 x.mask] cE;have b1:=cq h [.int .u64 x.k0,.int .u64 x.k1,.int .u64 x.mask] cE;simp only[At,cR h];generalize hnew h [.int .u64 x.k0,.int .u64 x.k1,.int .u64 x.mask] cE=h1 at a b1;refine⟨x.k0,by rw[cp,cp,bF b1];rfl,x.k1,by rw[cp,cp,bF b1];rfl,x.mask,by rw[cp,bF b1];rfl,?_⟩
 refine abD fun h2 b=>⟨by rw[cp,bF (b.get0 b1)];rfl,c _ (a.tr b)⟩
theorem Hh(x:Hs)(s:ByteArray):0≤eP x s∧eP x s<18446744073709551616:=FP _
end Go.Proofs
namespace Go.Proofs
open Go Go.Lift
abbrev eu(x:ByteArray×ByteArray):List Value:= [.string x.1,.string x.2]
theorem gu(x:ByteArray×ByteArray):(eu x).length=2∧0<2:=⟨rfl,by omega⟩
theorem xj:∀xs:List (ByteArray×ByteArray),cH (xs.flatMap eu)=true
 | []=>rfl
 |x::xs=>by rw[aP];exact nh rfl (xj xs)
theorem Oo{h:ad}{a b o d c f e:Nat}{g cw:Array Value}{j tb:TypeId}(hv:h[a]? =some (.cells g j (0,0))) (k:h[b]? =some (.cells cw tb (0,0))) (p:a≠b) (n:cw.size≠0) {K:Bool→ad→Prop} (m:K false h):
  HC PG kQ [.slice (some ⟨a,0,none⟩) d c,.slice (some ⟨b,o,none⟩) f e] [.c .bool] K h:=by
 refine⟨fun w i=>.inr ⟨.bool false,w,?_,Tame.refl w,false,rfl,i▸m⟩⟩
 subst i;rw[vT];have:=Lib.run_overlaps_apart (P:=PG) w cD rX ao (by kernel_rfl) (cC PG ao) (uM (by kernel_rfl)) ⟨a,0,none⟩ ⟨b,o,none⟩ d c f e p j tb g.size cw.size
  (by simp[World.shape?,hv]) (by simp[World.shape?,k]) n (by simp[World.frozen?,hv]) (by simp[World.frozen?,hv])
 rw[show([Value.slice (some ⟨a,0,none⟩) d c,Value.slice (some ⟨b,o,none⟩) f e]:List Value).toArray= #[.slice (some ⟨a,0,none⟩) d c,.slice (some ⟨b,o,none⟩) f e]from rfl,this]
 rfl
set_option maxRecDepth 4000 in
theorem Ts{M:Nat→Prop}{h:ad}{s:SliceV}{xs:List (ByteArray×ByteArray)}(T:OwnS eu 2 ao M h s xs){k:Nat}(U:k≤xs.length)(hn:(xs.length+1)*32≤140737488355328){x:ByteArray×ByteArray}{m:Nat}(hv:h[m]? =some (.cells (eu x).toArray ao (0,0)))
  (hvM:¬M m) (hM:∀b,h.size≤b→M b) {K:SliceV→ad→Prop} (hK:∀s' h',OwnS eu 2 ao M h' s' (xs.take k++x::xs.drop k)→Upd M h h'→K s' h'):
  HC PG dK [.slice s.a s.len s.cap,.int .i64 k,.slice (some ⟨m,0,none⟩) 1 1] [.c .slice] K h:=by
 refine pX s k ⟨some ⟨m,0,none⟩,1,1⟩ ?_;unfold kg lN;have u:=T.len;have hcap:=T.cap;have O:SRow h (some ⟨m,0,none⟩) (1*2) (eu x):=⟨rfl,.inr ⟨_,rfl,pI hv fun i v hi=>by simpa using hi⟩⟩
 refine⟨by omega,ag.2 ?_⟩;refine CondP.intro (fun e=>?_) fun e=>?_
 ·have e:k=xs.length:=by have:=of_decide_eq_true (by simpa using e:decide ((k:Int)=(s.len:Int))=true);omega
  subst e;refine⟨_,O,AppP.own (ys:= [x]) T rfl (by simp) rfl rfl (by omega) (by simp;omega) (hM _ (aj _)) fun s' h' ho hu=>hK s' h' ?_ hu⟩
  rw[bT,qc];exact ho
 have hlt:k<xs.length:=by
  rcases bZ k xs.length with h|h
  ·exact h
  ·have:((k:Int)==(s.len:Int))=true:=by rw[beq_iff_eq];omega
   rw[this]at e;cases e
 rcases T.blk with h0|⟨b,d,ha,o,hc,hr⟩
 ·omega
 have j:((xs.take k).flatMap eu).length=k*2:=by rw[nr gu,aI,bN U]
 have p:((xs.drop k).flatMap eu).length=(xs.length-k)*2:=by rw[nr gu,aU]
 have G:m≠b:=fun e=>hvM (e▸o)
 rw[DF (f:=eu) xs k]at hc;have a:(xs.take k++x::xs.drop k).flatMap eu=(xs.take k).flatMap eu++(eu x++(xs.drop k).flatMap eu):=by rw[bR,aP]
 have g:=xj (xs.drop k);have c:(eu x).length=2:=rfl;have C:cH (eu x)=true:=rfl;generalize hAe:(xs.take k).flatMap eu=A at j hc a;generalize hBe:(xs.drop k).flatMap eu=B at p hc a g;generalize eu x=X at O c hv a C;rw[ha];have w1:IntKind.wrap .i64 ((xs.length:Int)+((1:Nat):Int))=((xs.length+1:Nat):Int):=by rw[dI (by omega)];omega
 have w2:IntKind.wrap .i64 ((k:Int)+((1:Nat):Int))=((k+1:Nat):Int):=by rw[dI (by omega)];omega
 have w3:IntKind.wrap .i64 (((xs.length+1:Nat):Int)-(k:Int))=((xs.length+1-k:Nat):Int):=by rw[dI (by omega)];omega
 simp only[w1,w2,w3,aR,u];refine ax (fun hgt=>?_) fun hle=>?_
 ·
  have Q:s.cap=xs.length:=by omega
  refine Join.plain ⟨by omega,⟨by omega,by omega,by omega,by omega⟩,fun hin=>?_,fun H=>?_⟩
  ·omega
  ·refine⟨A,_,?_,rfl,by omega,Go.growslice_fits H (by omega),fun D z=>?_⟩
   ·rw[sub_zero]
    exact oh hc (by rw[j];omega) (by simp only[cO,fa];rw[ar,←j,gP (aj _),bT])
   ·simp only[aR]at z⊢
    have S:=Upd.hnew No h (A++eO (xs.length+1-k) [.string (⟨#[]⟩:ByteArray),.string (⟨#[]⟩:ByteArray)]++eO (D-(k-0+(xs.length+1-k))) [.string (⟨#[]⟩:ByteArray),.string (⟨#[]⟩:ByteArray)]) ao;have bn:=cq h (A++eO (xs.length+1-k) [.string (⟨#[]⟩:ByteArray),.string (⟨#[]⟩:ByteArray)]++eO (D-(k-0+(xs.length+1-k))) [.string (⟨#[]⟩:ByteArray),.string (⟨#[]⟩:ByteArray)]) ao
    have w:(eO (xs.length+1-k) [.string (⟨#[]⟩:ByteArray),.string (⟨#[]⟩:ByteArray)]).length=(xs.length+1-k)*2:=oZ _ _;have V:(eO (D-(k-0+(xs.length+1-k))) [.string (⟨#[]⟩:ByteArray),.string (⟨#[]⟩:ByteArray)]).length=(D-(k-0+(xs.length+1-k)))*2:=oZ _ _;have n:k-0+(xs.length+1-k)=xs.length+1:=by omega
    rw[cR];have hsz:h.size≠m:=fun e=>by have:=bC hv;omega
    have L:h.size≠b:=fun e=>by have:=bC hc;omega
    have P:=S.get0 hc;have F:=S.get0 hv;generalize hnew h _ ao=h9 at S bn P F;rw[n]at z V⊢;have Y:fc 1 (xs.length+1-k)=1:=bN (by omega);have m2:fc (xs.length-k) (xs.length+1-(k+1))=xs.length-k:=bN (by omega);rw[Y];have xr9:SRow h9 (some ⟨m,0,none⟩) (1*2) X:=oh F (by rw[c]) (by rw[cO,bo];rw[c];omega)
    refine⟨by omega,?_⟩;rw[mp (by omega)];refine nP xr9 C bn (by simp only[ac,j,w];omega) fun h11 J t=>⟨by omega,?_⟩
    simp only[Bd];rw[mp (by omega),mp (by omega),m2];refine⟨by omega,?_⟩;have y:=t.get P (fun e=>L e.symm)
    have br:SRow h11 (some ⟨b,0+k*2,none⟩) ((xs.length-k)*2) B:=oh y p (by
     rw[aQ,ar,←j,g8,←p,iM])
    refine nP br g J ?_ fun h16 E I=>?_
    ·simp only[ac,aI,aU,j,w,c];omega
    ·refine hK _ _ ⟨by simp;omega,gu,z,.inr ⟨h.size,eO (D-(xs.length+1)) [.string (⟨#[]⟩:ByteArray),.string (⟨#[]⟩:ByteArray)],rfl,hM _ (aj _),?_,by rw[oZ];rfl⟩⟩ ((S.wide.trans (M':=(· =h.size)) t fun b o=>.inl (o▸hM _ (aj _))).trans (M':=(· =h.size)) I fun b o=>.inl (o▸hM _ (aj _)))
     rw[E,a];have:=Ox (A:=A) (X:=X) (B:=B) (Z1:=eO (xs.length+1-k) [.string (⟨#[]⟩:ByteArray),.string (⟨#[]⟩:ByteArray)]) (Z2:=eO (D-(xs.length+1)) [.string (⟨#[]⟩:ByteArray),.string (⟨#[]⟩:ByteArray)]) (r:=(xs.length-k)*2) j c (by rw[w,←je];congr 1;omega);rw[n,←this];simp only[aQ,je,vd]
 ·have Q:xs.length+1≤s.cap:=by omega
  refine⟨by omega,?_⟩;simp only[Bd,fa];rw[sub_zero,mp (show s.cap≠k+1 by omega),mp (show s.cap≠k by omega)]
  refine⟨by omega,?_⟩;have hrl:2≤d.length:=by rw[hr];exact tf _ (by omega)
  refine Oo hv hc G (by rw[ed,ac];omega) ?_;refine au.2 ⟨by omega,by omega,?_⟩
  have Y:fc 1 (xs.length+1-k)=1:=bN (by omega);have m2:fc (xs.length+1-k) (xs.length+1-(k+1))=xs.length-k:=by
   rw[show xs.length+1-(k+1)=xs.length-k by omega];exact il (by omega)
  rw[m2];have br:SRow h (some ⟨b,0+k*2,none⟩) ((xs.length-k)*2) B:=oh hc p (by
   rw[aQ,ar,←j,g8,←p,iM])
  refine nP br g hc (by simp only[ac,j,p];omega) fun h1 W N=>⟨by omega,?_⟩
  rw[Y];have xr1:SRow h1 (some ⟨m,0,none⟩) (1*2) X:=oh (N.get hv G) (by rw[c]) (by rw[cO,bo];rw[c];omega);refine nP xr1 C W (by simp only[ac,aI,aU,j,p];omega) fun h2 hb2 Z=>?_
  refine hK _ _ ⟨by simp;omega,gu,Q,.inr ⟨b,d.drop 2,rfl,o,?_,?_⟩⟩ ((N.mono fun _ e=>.inl (e▸o)).tr (Z.mono fun _ e=>.inl (e▸o)))
  ·rw[hb2,a]
   have:=Tu (A:=A) (X:=X) (B:=B) (R:=d) (q:=2) (r:=(xs.length-k)*2) j p hrl;rw[←this];simp only[aQ,je,vd]
  ·rw[aU,hr]
   simp only;rw[u];omega
abbrev uJ(x:Option Addr):List Value:= [.pointer x]
theorem vh(x:Option Addr):(uJ x).length=1∧0<1:=⟨rfl,by omega⟩
theorem Ii:∀xs:List (Option Addr),cH (xs.flatMap uJ)=true
 | []=>rfl
 |x::xs=>by rw[aP];exact nh rfl (Ii xs)
theorem Oq{h:ad}{a b o d c f e:Nat}{g cw:Array Value}{j tb:TypeId}(hv:h[a]? =some (.cells g j (0,0))) (k:h[b]? =some (.cells cw tb (0,0))) (p:a≠b) (n:cw.size≠0) {K:Bool→ad→Prop} (m:K false h):
  HC PG jS [.slice (some ⟨a,0,none⟩) d c,.slice (some ⟨b,o,none⟩) f e] [.c .bool] K h:=by
 refine⟨fun w i=>.inr ⟨.bool false,w,?_,Tame.refl w,false,rfl,i▸m⟩⟩
 subst i;rw[uX];have:=Lib.run_overlaps_apart (P:=PG) w vf rX ci (by kernel_rfl) (cC PG ci) (uM (by kernel_rfl)) ⟨a,0,none⟩ ⟨b,o,none⟩ d c f e p j tb g.size cw.size
  (by simp[World.shape?,hv]) (by simp[World.shape?,k]) n (by simp[World.frozen?,hv]) (by simp[World.frozen?,hv])
 rw[show([Value.slice (some ⟨a,0,none⟩) d c,Value.slice (some ⟨b,o,none⟩) f e]:List Value).toArray= #[.slice (some ⟨a,0,none⟩) d c,.slice (some ⟨b,o,none⟩) f e]from rfl,this]
 rfl
set_option maxRecDepth 4000 in
theorem Tt{M:Nat→Prop}{h:ad}{s:SliceV}{xs:List (Option Addr)}(T:OwnS uJ 1 ci M h s xs){k:Nat}(U:k≤xs.length)(hn:(xs.length+1)*8≤140737488355328){x:Option Addr}{m:Nat}(hv:h[m]? =some (.cells (uJ x).toArray ci (0,0)))
  (hvM:¬M m) (hM:∀b,h.size≤b→M b) {K:SliceV→ad→Prop} (hK:∀s' h',OwnS uJ 1 ci M h' s' (xs.take k++x::xs.drop k)→Upd M h h'→K s' h'):
  HC PG c7 [.slice s.a s.len s.cap,.int .i64 k,.slice (some ⟨m,0,none⟩) 1 1] [.c .slice] K h:=by
 refine nR s k ⟨some ⟨m,0,none⟩,1,1⟩ ?_;unfold iZ;have u:=T.len;have hcap:=T.cap;have O:SRow h (some ⟨m,0,none⟩) (1*1) (uJ x):=⟨rfl,.inr ⟨_,rfl,pI hv fun i v hi=>by simpa using hi⟩⟩
 refine⟨by omega,ag.2 ?_⟩;refine CondP.intro (fun e=>?_) fun e=>?_
 ·have e:k=xs.length:=by have:=of_decide_eq_true (by simpa using e:decide ((k:Int)=(s.len:Int))=true);omega
  subst e;refine⟨_,O,AppP.own (ys:= [x]) T rfl (by simp) rfl rfl (by omega) (by simp;omega) (hM _ (aj _)) fun s' h' ho hu=>hK s' h' ?_ hu⟩
  rw[bT,qc];exact ho
 have hlt:k<xs.length:=by
  rcases bZ k xs.length with h|h
  ·exact h
  ·have:((k:Int)==(s.len:Int))=true:=by rw[beq_iff_eq];omega
   rw[this]at e;cases e
 rcases T.blk with h0|⟨b,d,ha,o,hc,hr⟩
 ·omega
 have j:((xs.take k).flatMap uJ).length=k*1:=by rw[nr vh,aI,bN U]
 have p:((xs.drop k).flatMap uJ).length=(xs.length-k)*1:=by rw[nr vh,aU]
 have G:m≠b:=fun e=>hvM (e▸o)
 rw[DF (f:=uJ) xs k]at hc;have a:(xs.take k++x::xs.drop k).flatMap uJ=(xs.take k).flatMap uJ++(uJ x++(xs.drop k).flatMap uJ):=by rw[bR,aP]
 have g:=Ii (xs.drop k);have c:(uJ x).length=1:=rfl;have C:cH (uJ x)=true:=rfl;generalize hAe:(xs.take k).flatMap uJ=A at j hc a;generalize hBe:(xs.drop k).flatMap uJ=B at p hc a g;generalize uJ x=X at O c hv a C;rw[ha];have w1:IntKind.wrap .i64 ((xs.length:Int)+((1:Nat):Int))=((xs.length+1:Nat):Int):=by rw[dI (by omega)];omega
 have w2:IntKind.wrap .i64 ((k:Int)+((1:Nat):Int))=((k+1:Nat):Int):=by rw[dI (by omega)];omega
 have w3:IntKind.wrap .i64 (((xs.length+1:Nat):Int)-(k:Int))=((xs.length+1-k:Nat):Int):=by rw[dI (by omega)];omega
 simp only[w1,w2,w3,aR,u];refine ax (fun hgt=>?_) fun hle=>?_
 ·
  have Q:s.cap=xs.length:=by omega
  refine Join.plain ⟨by omega,⟨by omega,by omega,by omega,by omega⟩,fun hin=>?_,fun H=>?_⟩
  ·omega
  ·refine⟨A,_,?_,rfl,by omega,Go.growslice_fits H (by omega),fun D z=>?_⟩
   ·rw[sub_zero]
    exact oh hc (by rw[j];omega) (by simp only[cO,fa];rw[ar,←j,gP (aj _),bT])
   ·simp only[aR]at z⊢
    have S:=Upd.hnew No h (A++eO (xs.length+1-k) [.pointer none]++eO (D-(k-0+(xs.length+1-k))) [.pointer none]) ci;have bn:=cq h (A++eO (xs.length+1-k) [.pointer none]++eO (D-(k-0+(xs.length+1-k))) [.pointer none]) ci;have w:(eO (xs.length+1-k) [.pointer none]).length=(xs.length+1-k)*1:=oZ _ _;have V:(eO (D-(k-0+(xs.length+1-k))) [.pointer none]).length=(D-(k-0+(xs.length+1-k)))*1:=oZ _ _
    have n:k-0+(xs.length+1-k)=xs.length+1:=by omega
    rw[cR];have hsz:h.size≠m:=fun e=>by have:=bC hv;omega
    have L:h.size≠b:=fun e=>by have:=bC hc;omega
    have P:=S.get0 hc;have F:=S.get0 hv;generalize hnew h _ ci=h9 at S bn P F;rw[n]at z V⊢;have Y:fc 1 (xs.length+1-k)=1:=bN (by omega);have m2:fc (xs.length-k) (xs.length+1-(k+1))=xs.length-k:=bN (by omega);rw[Y];have xr9:SRow h9 (some ⟨m,0,none⟩) (1*1) X:=oh F (by rw[c]) (by rw[cO,bo];rw[c];omega)
    refine⟨by omega,?_⟩;rw[mp (by omega)];refine nP xr9 C bn (by simp only[ac,j,w];omega) fun h11 J t=>⟨by omega,?_⟩
    simp only[Bd];rw[mp (by omega),mp (by omega),m2];refine⟨by omega,?_⟩;have y:=t.get P (fun e=>L e.symm)
    have br:SRow h11 (some ⟨b,0+k*1,none⟩) ((xs.length-k)*1) B:=oh y p (by
     rw[aQ,ar,←j,g8,←p,iM])
    refine nP br g J ?_ fun h16 E I=>?_
    ·simp only[ac,aI,aU,j,w,c];omega
    ·refine hK _ _ ⟨by simp;omega,vh,z,.inr ⟨h.size,eO (D-(xs.length+1)) [.pointer none],rfl,hM _ (aj _),?_,by rw[oZ];rfl⟩⟩ ((S.wide.trans (M':=(· =h.size)) t fun b o=>.inl (o▸hM _ (aj _))).trans (M':=(· =h.size)) I fun b o=>.inl (o▸hM _ (aj _)))
     rw[E,a];have:=Ox (A:=A) (X:=X) (B:=B) (Z1:=eO (xs.length+1-k) [.pointer none]) (Z2:=eO (D-(xs.length+1)) [.pointer none]) (r:=(xs.length-k)*1) j c (by rw[w,←je];congr 1;omega);rw[n,←this];simp only[aQ,je,vd]
 ·have Q:xs.length+1≤s.cap:=by omega
  refine⟨by omega,?_⟩;simp only[Bd,fa];rw[sub_zero,mp (show s.cap≠k+1 by omega),mp (show s.cap≠k by omega)]
  refine⟨by omega,?_⟩;have hrl:1≤d.length:=by rw[hr];exact tf _ (by omega)
  refine Oq hv hc G (by rw[ed,ac];omega) ?_;refine au.2 ⟨by omega,by omega,?_⟩
  have Y:fc 1 (xs.length+1-k)=1:=bN (by omega);have m2:fc (xs.length+1-k) (xs.length+1-(k+1))=xs.length-k:=by
   rw[show xs.length+1-(k+1)=xs.length-k by omega];exact il (by omega)
  rw[m2];have br:SRow h (some ⟨b,0+k*1,none⟩) ((xs.length-k)*1) B:=oh hc p (by
   rw[aQ,ar,←j,g8,←p,iM])
  refine nP br g hc (by simp only[ac,j,p];omega) fun h1 W N=>⟨by omega,?_⟩
  rw[Y];have xr1:SRow h1 (some ⟨m,0,none⟩) (1*1) X:=oh (N.get hv G) (by rw[c]) (by rw[cO,bo];rw[c];omega);refine nP xr1 C W (by simp only[ac,aI,aU,j,p];omega) fun h2 hb2 Z=>?_
  refine hK _ _ ⟨by simp;omega,vh,Q,.inr ⟨b,d.drop 1,rfl,o,?_,?_⟩⟩ ((N.mono fun _ e=>.inl (e▸o)).tr (Z.mono fun _ e=>.inl (e▸o)))
  ·rw[hb2,a]
   have:=Tu (A:=A) (X:=X) (B:=B) (R:=d) (q:=1) (r:=(xs.length-k)*1) j p hrl;rw[←this];simp only[aQ,je,vd]
  ·rw[aU,hr]
   simp only;rw[u];omega
abbrev qd(x:Option Addr):List Value:= [.pointer x]
theorem oe(x:Option Addr):(qd x).length=1∧0<1:=⟨rfl,by omega⟩
theorem Ih:∀xs:List (Option Addr),cH (xs.flatMap qd)=true
 | []=>rfl
 |x::xs=>by rw[aP];exact nh rfl (Ih xs)
theorem On{h:ad}{a b o d c f e:Nat}{g cw:Array Value}{j tb:TypeId}(hv:h[a]? =some (.cells g j (0,0))) (k:h[b]? =some (.cells cw tb (0,0))) (p:a≠b) (n:cw.size≠0) {K:Bool→ad→Prop} (m:K false h):
  HC PG jy [.slice (some ⟨a,0,none⟩) d c,.slice (some ⟨b,o,none⟩) f e] [.c .bool] K h:=by
 refine⟨fun w i=>.inr ⟨.bool false,w,?_,Tame.refl w,false,rfl,i▸m⟩⟩
 subst i;rw[ue];have:=Lib.run_overlaps_apart (P:=PG) w tN rX bj (by kernel_rfl) (cC PG bj) (uM (by kernel_rfl)) ⟨a,0,none⟩ ⟨b,o,none⟩ d c f e p j tb g.size cw.size
  (by simp[World.shape?,hv]) (by simp[World.shape?,k]) n (by simp[World.frozen?,hv]) (by simp[World.frozen?,hv])
 rw[show([Value.slice (some ⟨a,0,none⟩) d c,Value.slice (some ⟨b,o,none⟩) f e]:List Value).toArray= #[.slice (some ⟨a,0,none⟩) d c,.slice (some ⟨b,o,none⟩) f e]from rfl,this]
 rfl
set_option maxRecDepth 4000 in
theorem Tq{M:Nat→Prop}{h:ad}{s:SliceV}{xs:List (Option Addr)}(T:OwnS qd 1 bj M h s xs){k:Nat}(U:k≤xs.length)(hn:(xs.length+1)*8≤140737488355328){x:Option Addr}{m:Nat}(hv:h[m]? =some (.cells (qd x).toArray bj (0,0)))
  (hvM:¬M m) (hM:∀b,h.size≤b→M b) {K:SliceV→ad→Prop} (hK:∀s' h',OwnS qd 1 bj M h' s' (xs.take k++x::xs.drop k)→Upd M h h'→K s' h'):
  HC PG ft [.slice s.a s.len s.cap,.int .i64 k,.slice (some ⟨m,0,none⟩) 1 1] [.c .slice] K h:=by
 refine mU s k ⟨some ⟨m,0,none⟩,1,1⟩ ?_;unfold iq;have u:=T.len;have hcap:=T.cap;have O:SRow h (some ⟨m,0,none⟩) (1*1) (qd x):=⟨rfl,.inr ⟨_,rfl,pI hv fun i v hi=>by simpa using hi⟩⟩
 refine⟨by omega,ag.2 ?_⟩;refine CondP.intro (fun e=>?_) fun e=>?_
 ·have e:k=xs.length:=by have:=of_decide_eq_true (by simpa using e:decide ((k:Int)=(s.len:Int))=true);omega
  subst e;refine⟨_,O,AppP.own (ys:= [x]) T rfl (by simp) rfl rfl (by omega) (by simp;omega) (hM _ (aj _)) fun s' h' ho hu=>hK s' h' ?_ hu⟩
  rw[bT,qc];exact ho
 have hlt:k<xs.length:=by
  rcases bZ k xs.length with h|h
  ·exact h
  ·have:((k:Int)==(s.len:Int))=true:=by rw[beq_iff_eq];omega
   rw[this]at e;cases e
 rcases T.blk with h0|⟨b,d,ha,o,hc,hr⟩
 ·omega
 have j:((xs.take k).flatMap qd).length=k*1:=by rw[nr oe,aI,bN U]
 have p:((xs.drop k).flatMap qd).length=(xs.length-k)*1:=by rw[nr oe,aU]
 have G:m≠b:=fun e=>hvM (e▸o)
 rw[DF (f:=qd) xs k]at hc;have a:(xs.take k++x::xs.drop k).flatMap qd=(xs.take k).flatMap qd++(qd x++(xs.drop k).flatMap qd):=by rw[bR,aP]
 have g:=Ih (xs.drop k);have c:(qd x).length=1:=rfl;have C:cH (qd x)=true:=rfl;generalize hAe:(xs.take k).flatMap qd=A at j hc a;generalize hBe:(xs.drop k).flatMap qd=B at p hc a g;generalize qd x=X at O c hv a C;rw[ha];have w1:IntKind.wrap .i64 ((xs.length:Int)+((1:Nat):Int))=((xs.length+1:Nat):Int):=by rw[dI (by omega)];omega
 have w2:IntKind.wrap .i64 ((k:Int)+((1:Nat):Int))=((k+1:Nat):Int):=by rw[dI (by omega)];omega
 have w3:IntKind.wrap .i64 (((xs.length+1:Nat):Int)-(k:Int))=((xs.length+1-k:Nat):Int):=by rw[dI (by omega)];omega
 simp only[w1,w2,w3,aR,u];refine ax (fun hgt=>?_) fun hle=>?_
 ·
  have Q:s.cap=xs.length:=by omega
  refine Join.plain ⟨by omega,⟨by omega,by omega,by omega,by omega⟩,fun hin=>?_,fun H=>?_⟩
  ·omega
  ·refine⟨A,_,?_,rfl,by omega,Go.growslice_fits H (by omega),fun D z=>?_⟩
   ·rw[sub_zero]
    exact oh hc (by rw[j];omega) (by simp only[cO,fa];rw[ar,←j,gP (aj _),bT])
   ·simp only[aR]at z⊢
    have S:=Upd.hnew No h (A++eO (xs.length+1-k) [.pointer none]++eO (D-(k-0+(xs.length+1-k))) [.pointer none]) bj;have bn:=cq h (A++eO (xs.length+1-k) [.pointer none]++eO (D-(k-0+(xs.length+1-k))) [.pointer none]) bj;have w:(eO (xs.length+1-k) [.pointer none]).length=(xs.length+1-k)*1:=oZ _ _;have V:(eO (D-(k-0+(xs.length+1-k))) [.pointer none]).length=(D-(k-0+(xs.length+1-k)))*1:=oZ _ _
    have n:k-0+(xs.length+1-k)=xs.length+1:=by omega
    rw[cR];have hsz:h.size≠m:=fun e=>by have:=bC hv;omega
    have L:h.size≠b:=fun e=>by have:=bC hc;omega
    have P:=S.get0 hc;have F:=S.get0 hv;generalize hnew h _ bj=h9 at S bn P F;rw[n]at z V⊢;have Y:fc 1 (xs.length+1-k)=1:=bN (by omega);have m2:fc (xs.length-k) (xs.length+1-(k+1))=xs.length-k:=bN (by omega);rw[Y];have xr9:SRow h9 (some ⟨m,0,none⟩) (1*1) X:=oh F (by rw[c]) (by rw[cO,bo];rw[c];omega)
    refine⟨by omega,?_⟩;rw[mp (by omega)];refine nP xr9 C bn (by simp only[ac,j,w];omega) fun h11 J t=>⟨by omega,?_⟩
    simp only[Bd];rw[mp (by omega),mp (by omega),m2];refine⟨by omega,?_⟩;have y:=t.get P (fun e=>L e.symm)
    have br:SRow h11 (some ⟨b,0+k*1,none⟩) ((xs.length-k)*1) B:=oh y p (by
     rw[aQ,ar,←j,g8,←p,iM])
    refine nP br g J ?_ fun h16 E I=>?_
    ·simp only[ac,aI,aU,j,w,c];omega
    ·refine hK _ _ ⟨by simp;omega,oe,z,.inr ⟨h.size,eO (D-(xs.length+1)) [.pointer none],rfl,hM _ (aj _),?_,by rw[oZ];rfl⟩⟩ ((S.wide.trans (M':=(· =h.size)) t fun b o=>.inl (o▸hM _ (aj _))).trans (M':=(· =h.size)) I fun b o=>.inl (o▸hM _ (aj _)))
     rw[E,a];have:=Ox (A:=A) (X:=X) (B:=B) (Z1:=eO (xs.length+1-k) [.pointer none]) (Z2:=eO (D-(xs.length+1)) [.pointer none]) (r:=(xs.length-k)*1) j c (by rw[w,←je];congr 1;omega);rw[n,←this];simp only[aQ,je,vd]
 ·have Q:xs.length+1≤s.cap:=by omega
  refine⟨by omega,?_⟩;simp only[Bd,fa];rw[sub_zero,mp (show s.cap≠k+1 by omega),mp (show s.cap≠k by omega)]
  refine⟨by omega,?_⟩;have hrl:1≤d.length:=by rw[hr];exact tf _ (by omega)
  refine On hv hc G (by rw[ed,ac];omega) ?_;refine au.2 ⟨by omega,by omega,?_⟩
  have Y:fc 1 (xs.length+1-k)=1:=bN (by omega);have m2:fc (xs.length+1-k) (xs.length+1-(k+1))=xs.length-k:=by
   rw[show xs.length+1-(k+1)=xs.length-k by omega];exact il (by omega)
  rw[m2];have br:SRow h (some ⟨b,0+k*1,none⟩) ((xs.length-k)*1) B:=oh hc p (by
   rw[aQ,ar,←j,g8,←p,iM])
  refine nP br g hc (by simp only[ac,j,p];omega) fun h1 W N=>⟨by omega,?_⟩
  rw[Y];have xr1:SRow h1 (some ⟨m,0,none⟩) (1*1) X:=oh (N.get hv G) (by rw[c]) (by rw[cO,bo];rw[c];omega);refine nP xr1 C W (by simp only[ac,aI,aU,j,p];omega) fun h2 hb2 Z=>?_
  refine hK _ _ ⟨by simp;omega,oe,Q,.inr ⟨b,d.drop 1,rfl,o,?_,?_⟩⟩ ((N.mono fun _ e=>.inl (e▸o)).tr (Z.mono fun _ e=>.inl (e▸o)))
  ·rw[hb2,a]
   have:=Tu (A:=A) (X:=X) (B:=B) (R:=d) (q:=1) (r:=(xs.length-k)*1) j p hrl;rw[←this];simp only[aQ,je,vd]
  ·rw[aU,hr]
   simp only;rw[u];omega
end Go.Proofs
