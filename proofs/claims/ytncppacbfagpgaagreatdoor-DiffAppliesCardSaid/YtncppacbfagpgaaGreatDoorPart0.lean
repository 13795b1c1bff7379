/- A part of the proof that the named laws of this program answer true, whatever the input. -/
import Derived.Test.YtncppacbfagpgaaGreatDoorTreeF0
import Derived.Test.YtncppacbfagpgaaGreatDoorTreeF1
import Derived.Test.YtncppacbfagpgaaGreatDoorTreeF2
import Derived.Test.YtncppacbfagpgaaGreatDoorLaw0
import Derived.Test.YtncppacbfagpgaaGreatDoorLift3
import Derived.Lib.Overlaps
open BitVec renaming ofInt→av
open ByteArray renaming size_extract→gk
open Int renaming toNat_natCast→aU
open List renaming mem_cons_self→aw,mem_cons_of_mem→aB,mem_cons→aA,pairwise_cons→aJ,append_eq_nil_iff→j3,mem_singleton→aD,append_nil→aL,append_assoc→ar,append_cancel_left→fh,length→fu,length_append→ac,getElem_of_mem→bC,length_take→aH,length_drop→aV,take_append_drop→aI,pairwise_append→cn,getElem_mem→aZ,mem_of_getElem→pE,pairwise_iff_getElem→ce,take_succ_cons→dL,drop_succ_cons→gt,flatMap_cons→aO,take_length→bS,drop_length→mc,flatMap_append→bO,drop_zero→cL,take_append_of_le_length→gB,take_of_length_le→bm,drop_left→gR,take_left→iq,size_toArray→dE
open Nat renaming lt_or_ge→bW,zero_add→aR,le_refl→al,min_eq_left→bJ,sub_zero→eZ,min→fa,add_one_mul→iH,one_mul→ua,le_mul_of_pos_left→rN,min_eq_right→g9
open Option renaming isSome_iff_exists→js,some→bR
open UInt8 renaming toNat_inj→m8
namespace Go.Proofs
inductive Fo where
 |nil:Fo
 |cons (lab:List UInt8) (val:Option ByteArray) (kids rest:Fo):Fo
abbrev Bn:=List UInt8×Option ByteArray×Fo
def Fo.toL:Fo→List Bn
 | .nil=> []
 | .cons lab w kids rest=>(lab,w,kids)::rest.toL
theorem Fo.toL_cons(lab:List UInt8)(w:Option ByteArray)(a b:Fo):(Fo.cons lab w a b).toL=(lab,w,a)::b.toL:=rfl
def Fo.ofL:List Bn→Fo
 | []=>.nil
 |(lab,w,kids)::l=>.cons lab w kids (Fo.ofL l)
theorem Fo.to_of:∀l:List Bn,(Fo.ofL l).toL=l
 | []=>rfl
 |(_,_,_)::l=>by show _::(Fo.ofL l).toL=_;rw[Fo.to_of l]
theorem Fo.of_to:∀F:Fo,Fo.ofL F.toL=F
 | .nil=>rfl
 | .cons lab w kids rest=>by show Fo.cons lab w kids (Fo.ofL rest.toL)=_;rw[Fo.of_to rest]
def rZ:Fo→List UInt8→ByteArray→Prop
 | .nil,_,_=>False
 | .cons lab w kids rest,k,v=>(∃r,k=lab++r∧((r= []∧w=some v)∨rZ kids r v))∨rZ rest k v
def tW(w:Option ByteArray)(F:Fo)(k:List UInt8)(v:ByteArray):Prop:=(k= []∧w=some v)∨rZ F k v
def vd(n:Bn)(k:List UInt8)(v:ByteArray):Prop:=∃r,k=n.1++r∧tW n.2.1 n.2.2 r v
theorem gv:∀{F:Fo} {k:List UInt8} {v:ByteArray},rZ F k v↔∃n∈F.toL,vd n k v
 | .nil,_,_=>by simp[rZ,Fo.toL]
 | .cons lab w kids rest,k,v=>by
  rw[Fo.toL_cons];unfold rZ;rw[gv (F:=rest)];constructor
  ·rintro(h|⟨n,a,h⟩)
   ·exact⟨_,aw ..,h⟩
   ·exact⟨n,aB _ a,h⟩
  ·rintro⟨n,a,h⟩
   rcases aA.1 a with rfl|a
   ·exact .inl h
   ·exact .inr ⟨n,a,h⟩
def hd(k:List UInt8):Nat:=(k.headD 0).toNat
theorem pq{a b:List UInt8}(h:a≠[]):hd (a++b)=hd a:=by
 cases a with
 |nil=>exact absurd rfl h
 |cons x a=>rfl
theorem Zz(a:List UInt8):hd a<256:=UInt8.toNat_lt _
def fV:Fo→Prop
 | .nil=>True
 | .cons lab w kids rest=>lab≠[]∧(w.isSome∨2≤kids.toL.length)∧fV kids∧(∀n∈rest.toL,hd lab<hd n.1)∧fV rest
def K4(n:Bn):Prop:=n.1≠[]∧(n.2.1.isSome∨2≤n.2.2.toL.length)∧fV n.2.2
theorem eW:∀{F:Fo},fV F↔F.toL.Pairwise (fun m n=>hd m.1<hd n.1)∧∀n∈F.toL,K4 n
 | .nil=>by simp[fV,Fo.toL]
 | .cons lab w kids rest=>by
  rw[Fo.toL_cons,aJ];show(lab≠[]∧(w.isSome∨2≤kids.toL.length)∧fV kids∧(∀n∈rest.toL,hd lab<hd n.1)∧fV rest)↔_
  rw[eW (F:=rest)];constructor
  ·rintro⟨f,h2,e,d,c,b⟩
   refine⟨⟨d,c⟩,fun n a=>?_⟩
   rcases aA.1 a with rfl|a
   ·exact⟨f,h2,e⟩
   ·exact b n a
  ·rintro⟨⟨d,c⟩,b⟩
   have:=b _ (aw ..);exact⟨this.1,this.2.1,this.2.2,d,c,fun n a=>b n (aB _ a)⟩
theorem om:∀{F:Fo},fV F→∀n∈F.toL,∃r v,tW n.2.1 n.2.2 r v
 | .nil,_,n,a=>by simp[Fo.toL]at a
 | .cons lab w kids rest,h,n,a=>by
  rcases aA.1 a with rfl|a
  ·rcases h.2.1 with e|b
   ·obtain⟨v,hv⟩:=js.1 e
    exact⟨[],v,.inl ⟨rfl,hv⟩⟩
   ·have d:=om h.2.2.1
    have⟨m,hm⟩:∃m,m∈kids.toL:=by
     cases hl:kids.toL with
     |nil=>rw[hl]at b;simp at b
     |cons m l=>exact⟨m,aw ..⟩
    obtain⟨r,v,c⟩:=d m hm;exact⟨m.1++r,v,.inr (gv.2 ⟨m,hm,r,rfl,c⟩)⟩
  ·exact om h.2.2.2.2 n a
theorem qm{F:Fo}(h:fV F){k:List UInt8}{v:ByteArray}(hi:rZ F k v):k≠[]:=by
 obtain⟨n,a,r,rfl,_⟩:=gv.1 hi;have:=((eW.1 h).2 n a).1;intro e;exact this (j3.1 e).1
theorem sF{F:Fo}(h:fV F){k:List UInt8}{v:ByteArray}(hi:rZ F k v):∃n∈F.toL,hd n.1=hd k∧vd n k v:=by
 obtain⟨n,a,r,e,b⟩:=gv.1 hi;exact⟨n,a,by rw[e,pq ((eW.1 h).2 n a).1],r,e,b⟩
theorem yG{F:Fo}(h:fV F){m n:Bn}(hm:m∈F.toL)(f:n∈F.toL)(e:hd m.1=hd n.1):m=n:=by
 have d:=(eW.1 h).1;revert hm f;generalize F.toL=l at*;clear h;induction l with
 |nil=>intro hm;simp at hm
 |cons a l ih=>
  have d:=aJ.1 d;intro hm f;rcases aA.1 hm with i|c
  ·rcases aA.1 f with g|b
   ·rw[i,g]
   ·have:=d.1 n b;rw[←i]at this;omega
  ·rcases aA.1 f with g|b
   ·have:=d.1 m c;rw[←g]at this;omega
   ·exact ih d.2 c b
def Br(P:List UInt8→ByteArray→Prop):Prop:=(∃v,P [] v)∨∃j k u v,P j u∧P k v∧j≠[]∧k≠[]∧hd j≠hd k
theorem Jd{w:Option ByteArray}{F:Fo}(h:fV F):(w.isSome∨2≤F.toL.length)↔Br (tW w F):=by
 constructor
 ·rintro(t|B)
  ·obtain⟨v,hv⟩:=js.1 t
   exact .inl ⟨v,.inl ⟨rfl,hv⟩⟩
  ·right
   have c:=om h;have hc:=eW.1 h;match hL:F.toL,B with
   |a::b::l,_=>
    have d:a∈F.toL:=by rw[hL];simp
    have f:b∈F.toL:=by rw[hL];simp
    obtain⟨r,v,q⟩:=c a d;obtain⟨s,u,c⟩:=c b f;have o:=(hc.2 a d).1;have h2:=(hc.2 b f).1;have:=hc.1;rw[hL]at this;have C:=(aJ.1 this).1 b (aw ..);refine⟨a.1++r,b.1++s,v,u,.inr (gv.2 ⟨a,d,r,rfl,q⟩),.inr (gv.2 ⟨b,f,s,rfl,c⟩),?_,?_,?_⟩
    ·intro e;exact o (j3.1 e).1
    ·intro e;exact h2 (j3.1 e).1
    ·rw[pq o,pq h2];omega
 ·rintro(⟨v,hv⟩|⟨j,k,u,v,i,g,x,nk,z⟩)
  ·rcases hv with⟨_,hv⟩|hv
   ·left;rw[hv];rfl
   ·exact absurd rfl (qm h hv)
  ·right
   rcases i with⟨e,_⟩|i
   ·exact absurd e x
   rcases g with⟨e,_⟩|g
   ·exact absurd e nk
   obtain⟨m,hm,y,_⟩:=sF h i;obtain⟨n,p,A,_⟩:=sF h g;match hL:F.toL with
   | []=>rw[hL]at hm;simp at hm
   | [a]=>
    rw[hL]at hm p;rw[aD.1 hm]at y;rw[aD.1 p]at A;omega
   |a::b::l=>simp
end Go.Proofs
namespace Go.Proofs
theorem TK{m n:Bn}(d:Br (tW m.2.1 m.2.2))(h:∀k v,vd m k v→vd n k v):∃t,m.1=n.1++t:=by
 rcases d with⟨v,hv⟩|⟨j,k,u,v,i,g,o,nk,b⟩
 ·obtain⟨r,e,_⟩:=h m.1 v ⟨[],(aL _).symm,hv⟩
  exact⟨r,e⟩
 ·obtain⟨r,e,_⟩:=h (m.1++j) u ⟨j,rfl,i⟩
  obtain⟨s,f,_⟩:=h (m.1++k) v ⟨k,rfl,g⟩;rcases List.append_eq_append_iff.1 e with⟨a,c,h2⟩|⟨a,c,h2⟩
  ·rw[c,ar]at f
   have f:=fh f;cases a with
   |nil=>exact⟨[],by rw[c];simp⟩
   |cons x a=>
    rw[h2]at b;rw[f]at b;exact absurd rfl b
  ·exact⟨a,c⟩
theorem Sf:∀{F F':Fo},fV F→fV F'→(∀k v,rZ F k v↔rZ F' k v)→F=F'
 | .nil,.nil,_,_,_=>rfl
 | .nil,.cons lab w b c,_,h,he=>by
  obtain⟨r,v,i⟩:=om h _ (aw ..);exact((he _ v).2 (gv.2 ⟨_,aw ..,r,rfl,i⟩)).elim
 | .cons lab w b c,.nil,h,_,he=>by
  obtain⟨r,v,i⟩:=om h _ (aw ..);exact((he _ v).1 (gv.2 ⟨_,aw ..,r,rfl,i⟩)).elim
 | .cons lab w b c,.cons d g a f,h,h',he=>by
  have y:∀{lab w b c} {F:Fo},fV (.cons lab w b c)→fV F→(∀k v,rZ F k v→rZ (.cons lab w b c) k v)→∀n∈F.toL,hd lab≤hd n.1:=by
   intro lab w b c F h C hi n j;obtain⟨r,v,i⟩:=om C n j;obtain⟨m,hm,e,_⟩:=sF h (hi _ v (gv.2 ⟨n,j,r,rfl,i⟩));rw[pq ((eW.1 C).2 n j).1]at e;rcases aA.1 hm with rfl|hm
   ·simp only at e;omega
   ·have:=h.2.2.2.1 m hm;omega
  have N:=y h h' (fun k v=>(he k v).2) _ (aw ..)
  have O:=y h' h (fun k v=>(he k v).1) _ (aw ..)
  simp only at N O;have p:hd lab=hd d:=by omega
  have A:∀{lab w b c d g a f},fV (.cons lab w b c)→fV (.cons d g a f)→hd lab=hd d→(∀k v,rZ (.cons lab w b c) k v→rZ (.cons d g a f) k v)→(∀k v,vd (lab,w,b) k v→vd (d,g,a) k v)∧(∀k v,rZ c k v→rZ f k v):=by
   intro lab w b c d g a f h h' p hi;refine⟨fun k v o=>?_,fun k v o=>?_⟩
   ·obtain⟨n,j,e,i⟩:=sF h' (hi k v (gv.2 ⟨_,aw ..,o⟩))
    obtain⟨r,rfl,_⟩:=o;rw[pq h.1]at e;rw[←yG h' j (aw ..) (by simp only;omega)];exact i
   ·obtain⟨m,hm,R,_⟩:=sF h.2.2.2.2 o
    have:=h.2.2.2.1 m hm;obtain⟨n,j,e,i⟩:=sF h' (hi k v (Or.inr o));rcases aA.1 j with rfl|j
    ·simp only at e;omega
    ·exact gv.2 ⟨n,j,i⟩
  have⟨I,K⟩:=A h h' p fun k v=>(he k v).1
  have⟨J,M⟩:=A h' h p.symm fun k v=>(he k v).2
  have s:c=f:=Sf h.2.2.2.2 h'.2.2.2.2 fun k v=>⟨K k v,M k v⟩
  obtain⟨t,B⟩:=TK (m:=(lab,w,b)) (n:=(d,g,a)) ((Jd h.2.2.1).1 h.2.1) I;obtain⟨Q,u⟩:=TK (m:=(d,g,a)) (n:=(lab,w,b)) ((Jd h'.2.2.1).1 h'.2.1) J;simp only at B u;have z:lab=d:=by
   have:t= []:=by
    have L:=congrArg fu B;have h2:=congrArg fu u;rw[ac]at L h2;exact List.length_eq_zero_iff.1 (by omega)
   rw[B,this,aL]
  subst z;have x:∀{w b g a},(∀k v,vd (lab,w,b) k v→vd (lab,g,a) k v)→∀k v,tW w b k v→tW g a k v:=by
   intro w b g a j k v o;obtain⟨r,e,i⟩:=j (lab++k) v ⟨k,rfl,o⟩;rw[fh e];exact i
  have G:=x I;have E:=x J;have P:w=g:=by
   have D:∀{w b g a},fV a→(∀k v,tW w b k v→tW g a k v)→∀v,w=some v→g=some v:=by
    intro w b g a hc hi v hv;rcases hi [] v (.inl ⟨rfl,hv⟩)with⟨_,h⟩|h
    ·exact h
    ·exact absurd rfl (qm hc h)
   exact Option.ext fun v=>⟨D h'.2.2.1 G v,D h.2.2.1 E v⟩
  have H:∀{w b g a},fV b→(∀k v,tW w b k v→tW g a k v)→∀k v,rZ b k v→rZ a k v:=by
   intro w b g a hc hi k v o;rcases hi k v (.inr o)with⟨e,_⟩|h
   ·exact absurd e (qm hc o)
   ·exact h
  have q:b=a:=Sf h.2.2.1 h'.2.2.1 fun k v=>⟨H h.2.2.1 G k v,H h'.2.2.1 E k v⟩
  rw[P,q,s]
def xi(P a:List UInt8→ByteArray→Prop)(k:List UInt8)(v:ByteArray):Prop:=∀k' v',a k' v'↔(k'=k∧v'=v)∨(k'≠k∧P k' v')
theorem LF{w:Option ByteArray}{F:Fo}(h:fV F)(v:ByteArray):xi (tW w F) (tW (some v) F) [] v:=by
 intro k' a;unfold tW;constructor
 ·rintro(⟨e,f⟩|hi)
  ·exact .inl ⟨e,(bR.inj f).symm⟩
  ·exact .inr ⟨qm h hi,.inr hi⟩
 ·rintro(⟨e,f⟩|⟨e,⟨f,_⟩|hi⟩)
  ·exact .inl ⟨e,by rw[f]⟩
  ·exact absurd f e
  ·exact .inr hi
theorem EW{w:Option ByteArray}{F F':Fo}{k:List UInt8}{v:ByteArray}(c:k≠[])(h:xi (rZ F) (rZ F') k v):xi (tW w F) (tW w F') k v:=by
 intro k' a;unfold tW;rw[h k' a];constructor
 ·rintro(⟨e,f⟩|hi|hi)
  ·exact .inr ⟨fun b=>c (b.symm.trans e),.inl ⟨e,f⟩⟩
  ·exact .inl hi
  ·exact .inr ⟨hi.1,.inr hi.2⟩
 ·rintro(hi|⟨e,hi|hi⟩)
  ·exact .inr (.inl hi)
  ·exact .inl hi
  ·exact .inr (.inr ⟨e,hi⟩)
theorem UK{F:Fo}{k:List UInt8}{v:ByteArray}{i:Nat}(h:fV F)(z:k≠[])(hi:∀j (d:j<F.toL.length),j<i→hd F.toL[j].1<hd k)(g:∀j (d:j<F.toL.length),i≤j→hd k<hd F.toL[j].1):fV (.ofL (F.toL.take i++(k,some v,.nil)::F.toL.drop i))∧xi (rZ F) (rZ (.ofL (F.toL.take i++(k,some v,.nil)::F.toL.drop i))) k v:=by
 have hc:=eW.1 h;have x:∀n∈F.toL.take i,hd n.1<hd k:=fun n c=>by
  obtain⟨j,d,e⟩:=bC c;rw[aH]at d;rw[←e,List.getElem_take];exact hi j (by omega) (by omega)
 have w:∀n∈F.toL.drop i,hd k<hd n.1:=fun n c=>by
  obtain⟨j,d,e⟩:=bC c;rw[aV]at d;rw[←e,List.getElem_drop];exact g _ (by omega) (by omega)
 have mem:∀n,n∈F.toL.take i++(k,some v,.nil)::F.toL.drop i↔n=(k,some v,Fo.nil)∨n∈F.toL:=fun n=>by
  conv=>rhs;rw[←aI i F.toL]
  simp only[List.mem_append,aA];exact⟨fun h=>h.elim (fun h=>.inr (.inl h)) fun h=>h.elim .inl fun h=>.inr (.inr h),fun h=>h.elim (fun h=>.inr (.inl h)) fun h=>h.elim .inl fun h=>.inr (.inr h)⟩
 refine⟨eW.2 ⟨?_,?_⟩,fun k' u=>?_⟩
 ·rw[Fo.to_of]
  have m:=hc.1;rw[←aI i F.toL,cn]at m;refine cn.2 ⟨m.1,aJ.2 ⟨w,m.2.1⟩,fun a q b o=>?_⟩
  rcases aA.1 o with rfl|o
  ·exact x a q
  ·exact m.2.2 a q b o
 ·rw[Fo.to_of]
  intro n c;rcases(mem n).1 c with rfl|c
  ·exact⟨z,.inl rfl,trivial⟩
  ·exact hc.2 n c
 ·rw[gv,gv,Fo.to_of]
  constructor
  ·rintro⟨n,c,r,e,s⟩
   rcases(mem n).1 c with rfl|c
   ·rcases s with⟨rfl,f⟩|f
    ·exact .inl ⟨by rw[e];exact aL _,(bR.inj f).symm⟩
    ·exact f.elim
   ·right
    refine⟨fun y=>?_,n,c,r,e,s⟩
    have A:hd k=hd n.1:=by rw[←y,e,pq (hc.2 n c).1]
    obtain⟨j,d,t⟩:=bC c;rcases bW j i with p|p
    ·have:=hi j d p;rw[t]at this;omega
    ·have:=g j d p;rw[t]at this;omega
  ·rintro(⟨rfl,rfl⟩|⟨_,n,c,h⟩)
   ·exact⟨(k',some u,.nil),(mem _).2 (.inl rfl),[],(aL _).symm,.inl ⟨rfl,rfl⟩⟩
   ·exact⟨n,(mem _).2 (.inr c),h⟩
theorem oh{α:Type}{l:List α}{i:Nat}(hi:i<l.length){a x:α}(d:∀j (c:j<l.length),j≠i→l[j]≠l[i]):x∈l.set i a↔x=a∨(x∈l∧x≠l[i]):=by
 constructor
 ·intro h
  obtain⟨j,c,e⟩:=bC h;rw[List.length_set]at c;rw[List.getElem_set]at e;split at e
  ·exact .inl e.symm
  ·rename_i b
   exact .inr ⟨by rw[←e];exact aZ c,by rw[←e];exact d j c fun e=>b e.symm⟩
 ·rintro(rfl|⟨h,b⟩)
  ·exact pE (i:=i) (h:=by simpa using hi) (by simp)
  ·obtain⟨j,c,e⟩:=bC h
   have:i≠j:=by rintro rfl;exact b e.symm
   exact pE (i:=j) (h:=by simpa using c) (by rw[List.getElem_set_ne this];exact e)
theorem T0{F:Fo}{i:Nat}{m:Bn}(h:fV F)(hi:i<F.toL.length)(hm:K4 m)(e:hd m.1=hd F.toL[i].1):fV (.ofL (F.toL.set i m)):=by
 have hc:=eW.1 h;rw[eW,Fo.to_of];refine⟨?_,fun n g=>?_⟩
 ·rw[ce]at hc⊢
  intro a b f d c;rw[List.length_set]at f d;rw[List.getElem_set,List.getElem_set];split
  ·rename_i ea;subst ea
   rw[if_neg (by omega),e];exact hc.1 _ _ f d c
  ·split
   ·rename_i eb;subst eb
    rw[e];exact hc.1 _ _ f d c
   ·exact hc.1 _ _ f d c
 ·rcases List.mem_or_eq_of_mem_set g with g|rfl
  ·exact hc.2 n g
  ·exact hm
theorem yk{F:Fo}(h:fV F){i:Nat}(hi:i<F.toL.length)(j:Nat)(c:j<F.toL.length)(b:j≠i):F.toL[j]≠F.toL[i]:=by
 have hc:=(eW.1 h).1;rw[ce]at hc;intro e;rcases Nat.lt_or_gt_of_ne b with a|a
 ·have:=hc j i c hi a;rw[e]at this;omega
 ·have:=hc i j hi c a;rw[e]at this;omega
theorem O6{F:Fo}{i:Nat}{m:Bn}{k:List UInt8}{v:ByteArray}(h:fV F)(hi:i<F.toL.length)(ek:hd F.toL[i].1=hd k)(g:xi (vd F.toL[i]) (vd m) k v):xi (rZ F) (rZ (.ofL (F.toL.set i m))) k v:=by
 intro k' d;have hc:=eW.1 h;rw[gv,gv,Fo.to_of];constructor
 ·rintro⟨n,b,c⟩
  rcases(oh hi (yk h hi)).1 b with rfl|⟨b,f⟩
  ·rcases(g k' d).1 c with a|⟨a,h2⟩
   ·exact .inl a
   ·exact .inr ⟨a,_,aZ hi,h2⟩
  ·refine .inr ⟨fun e=>f ?_,n,b,c⟩
   obtain⟨r,j,_⟩:=c;refine yG h b (aZ hi) ?_;rw[ek,←e,j,pq (hc.2 n b).1]
 ·rintro(a|⟨a,n,b,c⟩)
  ·exact⟨m,(oh hi (yk h hi)).2 (.inl rfl),(g k' d).2 (.inl a)⟩
  ·by_cases e:n=F.toL[i]
   ·exact⟨m,(oh hi (yk h hi)).2 (.inl rfl),(g k' d).2 (.inr ⟨a,by rw[←e];exact c⟩)⟩
   ·exact⟨n,(oh hi (yk h hi)).2 (.inr ⟨b,e⟩),c⟩
theorem UJ{lab r:List UInt8}{w f:Option ByteArray}{F F':Fo}{v:ByteArray}(h:xi (tW w F) (tW f F') r v):xi (vd (lab,w,F)) (vd (lab,f,F')) (lab++r) v:=by
 intro k' a;constructor
 ·rintro⟨s,e,b⟩
  rcases(h s a).1 b with⟨rfl,rfl⟩|⟨d,h2⟩
  ·exact .inl ⟨e,rfl⟩
  ·exact .inr ⟨fun c=>d (fh (e.symm.trans c)),s,e,h2⟩
 ·rintro(⟨rfl,rfl⟩|⟨d,s,e,b⟩)
  ·exact⟨r,rfl,(h r a).2 (.inl ⟨rfl,rfl⟩)⟩
  ·exact⟨s,e,(h s a).2 (.inr ⟨fun c=>d (by rw[e,c]),b⟩)⟩
def cm:List UInt8→List UInt8→Nat
 |a::x,b::y=>if a=b then cm x y+1 else 0
 |_,_=>0
theorem TZ:∀(x y:List UInt8),cm x y≤x.length∧cm x y≤y.length
 | [],_=>by simp[cm]
 |_::_,[]=>by simp[cm]
 |a::x,b::y=>by unfold cm;have:=TZ x y;split<;>simp<;>omega
theorem TX:∀(x y:List UInt8),x.take (cm x y)=y.take (cm x y)
 | [],_=>by simp[cm]
 |_::_,[]=>by simp[cm]
 |a::x,b::y=>by
  unfold cm;split
  ·rename_i e;rw[dL,dL,TX x y,e]
  ·simp
theorem NG:∀(x y:List UInt8),cm x y<x.length→cm x y<y.length→hd (x.drop (cm x y))≠hd (y.drop (cm x y))
 | [],_=>by simp[cm]
 |_::_,[]=>by simp[cm]
 |a::x,b::y=>by
  unfold cm;split
  ·rename_i e
   intro c h2;rw[List.length_cons]at c h2;rw[gt,gt];exact NG x y (by omega) (by omega)
  ·rename_i e
   intro _ _ h;exact e (m8.1 h)
theorem Xn{x y:List UInt8}(hx:x≠[])(c:y≠[])(h:hd x=hd y):0<cm x y:=by
 match x,y,hx,c with
 |a::x,b::y,_,_=>
  unfold cm;rw[if_pos (show a=b from m8.1 h)]
  omega
theorem LY{lab:List UInt8}{w:Option ByteArray}{F:Fo}(c:Nat):∀k v,vd (lab.take c,none,.cons (lab.drop c) w F .nil) k v↔vd (lab,w,F) k v:=by
 intro k v;constructor
 ·rintro⟨r,e,⟨_,h⟩|(⟨s,rfl,h⟩|h)⟩
  ·cases h
  ·exact⟨s,by rw[e];simp only;rw[←ar,aI],h⟩
  ·exact h.elim
 ·rintro⟨s,e,h⟩
  exact⟨lab.drop c++s,by rw[e];simp only;rw[←ar,aI],.inr (.inl ⟨s,rfl,h⟩)⟩
theorem Xu{lab r:List UInt8}{w g:Option ByteArray}{F F':Fo}{v:ByteArray}(c:lab≠[])(i:w.isSome∨2≤F.toL.length)(j:fV F)(a:r≠[]→hd r≠hd lab)(h:xi (tW none (.cons lab w F .nil)) (tW g F') r v):Br (tW g F'):=by
 by_cases e:r= []
 ·subst e
  exact .inl ⟨v,(h [] v).2 (.inl ⟨rfl,rfl⟩)⟩
 ·have hc:fV (.cons lab w F .nil):=⟨c,i,j,fun n k=>by simp[Fo.toL]at k,trivial⟩
  obtain⟨s,u,d⟩:=om hc _ (aw ..);simp only at d;have f:hd (lab++s)=hd lab:=pq c;refine .inr ⟨r,lab++s,v,u,(h r v).2 (.inl ⟨rfl,rfl⟩),(h _ u).2 (.inr ⟨fun b=>a e (by rw[←b,f]),.inr (.inl ⟨s,rfl,d⟩)⟩),e,fun b=>c (j3.1 b).1,by rw[f];exact a e⟩
theorem Y9{P g:List UInt8→ByteArray→Prop}{k:List UInt8}{v:ByteArray}(d:Br P)(h:xi P g k v):Br g:=by
 have keep:∀j u,P j u→∃c,g j c:=fun j u f=>by
  by_cases e:j=k
  ·exact⟨v,(h j v).2 (.inl ⟨e,rfl⟩)⟩
  ·exact⟨u,(h j u).2 (.inr ⟨e,f⟩)⟩
 rcases d with⟨u,n⟩|⟨j,k',u,c,f,m,r⟩
 ·obtain⟨c,h'⟩:=keep [] u n
  exact .inl ⟨c,h'⟩
 ·obtain⟨a,i⟩:=keep j u f
  obtain⟨b,d⟩:=keep k' c m;exact .inr ⟨j,k',a,b,i,d,r⟩
end Go.Proofs
namespace Go.Proofs
open Go.Lift
theorem EI(n:Int):0≤IntKind.wrap .u64 n∧IntKind.wrap .u64 n<18446744073709551616:=by rw[IntKind.wrap_u64];omega
theorem fx{x:Int}(h: -4611686018427387904≤x∧x≤4611686018427387904):IntKind.wrap .i64 x=x:=Go.IntWalk.i64_in _ (by omega)
theorem dd{i n:Nat}(h:i<n)(a:n≤4611686018427387904):IntKind.wrap .i64 ((i:Int)+1)=((i+1:Nat):Int):=by rw[fx (by omega)];omega
theorem un{h:ae}{b i:Nat}{c:Array Value}{t:TypeId}{v:Value}{k:ae→Prop}(a:h[b]? =some (.cells c t (0,0)))
  (d:∀h',h'[b]? =some (.cells (c.setIfInBounds i v) t (0,0))→Upd (· =b) h h'→k h'):At (hset h ⟨b,i,none⟩ v) k:=by
 refine d _ ?_ (Upd.hset _ _ rfl);rw[IE a,kY a]
def PY(a b:Int):Int:=IntKind.wrap .u64 (av (IntKind.bits .u64) a&&&av (IntKind.bits .u64) b).toNat
def dX(a b:Int):Int:=IntKind.wrap .u64 (av (IntKind.bits .u64) a^^^av (IntKind.bits .u64) b).toNat
def Ij(a b:Int):Int:=IntKind.wrap .u64 (av (IntKind.bits .u64) a|||av (IntKind.bits .u64) b).toNat
def H2(x n:Int):Int:=
 Ij (IntKind.wrap .u64 (x*2^(min (PY (IntKind.wrap .u64 n) 63).toNat (IntKind.bits .u64)))) (Int.fdiv x (2^(min (IntKind.wrap .u64 (64-PY (IntKind.wrap .u64 n) 63)).toNat (IntKind.bits .u64))))
theorem ER{x n:Int}{h:ae}{K:Int→ae→Prop}(a:K (H2 x n) h):HC PG dV [.int .u64 x,.int .i64 n] [.c (.int .u64)] K h:=by
 refine xj x n ?_;unfold pW;exact⟨(EI _).1,(EI _).1,a⟩
abbrev Q4:=Int×Int×Int×Int
def q4(s:Q4):Array Value:= #[.int .u64 s.1,.int .u64 s.2.1,.int .u64 s.2.2.1,.int .u64 s.2.2.2]
def XJ(a b:Int):Int:=IntKind.wrap .u64 (a+b)
def X0(s:Q4):Q4:=(XJ s.1 s.2.1,s.2)
def Yp(s:Q4):Q4:=(s.1,dX (H2 s.2.1 13) s.1,s.2.2)
def Zp(s:Q4):Q4:=(H2 s.1 32,s.2)
def ZX(s:Q4):Q4:=(s.1,s.2.1,XJ s.2.2.1 s.2.2.2,s.2.2.2)
def aay(s:Q4):Q4:=(s.1,s.2.1,s.2.2.1,dX (H2 s.2.2.2 16) s.2.2.1)
def aaV(s:Q4):Q4:=(XJ s.1 s.2.2.2,s.2)
def abr(s:Q4):Q4:=(s.1,s.2.1,s.2.2.1,dX (H2 s.2.2.2 21) s.1)
def abG(s:Q4):Q4:=(s.1,s.2.1,XJ s.2.2.1 s.2.1,s.2.2.2)
def s09(s:Q4):Q4:=(s.1,dX (H2 s.2.1 17) s.2.2.1,s.2.2)
def ZW(s:Q4):Q4:=(s.1,s.2.1,H2 s.2.2.1 32,s.2.2.2)
def mC(s:Q4):Q4:=ZW (s09 (abG (abr (aaV (aay (ZX (Zp (Yp (X0 s)))))))))
def qU:Nat→Q4→Q4
 |0,s=>s
 |n+1,s=>qU n (mC s)
theorem sB{h:ae}{b i:Nat}{t:TypeId}{s s':Q4}{v:Value}{k:ae→Prop}(d:h[b]? =some (.cells (q4 s) t (0,0))) (e:(q4 s).setIfInBounds i v=q4 s')
  (f:∀h',h'[b]? =some (.cells (q4 s') t (0,0))→Upd (· =b) h h'→k h'):At (hset h ⟨b,i,none⟩ v) k:=
 un d fun h' a c=>f h' (e▸a) c
theorem Lw{n:Nat}(hn:n≤100){h:ae}{b:Nat}{t:TypeId}{s:Q4}(B:h[b]? =some (.cells (q4 s) t (0,0))) {K:Unit→ae→Prop}
  (P:∀h',h'[b]? =some (.cells (q4 (qU n s)) t (0,0))→Upd (· =b) h h'→K () h'):HC PG kD [.pointer (some ⟨b,0,none⟩),.int .i64 n] [] K h:=by
 refine Cx _ _ ?_;unfold vB bI cl db ng;refine LoopP.ghost (fun(g:Nat×Q4) (O:Int) h'=>O=(g.1:Int)∧g.1≤n∧h'[b]? =some (.cells (q4 g.2) t (0,0))∧Upd (· =b) h h'∧qU (n-g.1) g.2=qU n s) (fun g=>n-g.1) (0,s) ⟨rfl,Nat.zero_le _,B,Upd.refl _ _,rfl⟩ ?_
 rintro I ⟨i,d⟩ O h' ⟨M,hi,a,N,x⟩ R;simp only at M hi a x;subst M;refine az (fun v=>?_) fun S=>?_
 ·have v:i<n:=by omega
  have c:∀{h:ae} {s:Q4} {i:Nat},h[b]? =some (.cells (q4 s) t (0,0))→aP h ⟨b,0+i,none⟩=(q4 s)[i]?:=fun B=>by rw[aR];exact bH B
  have w:∀{h:ae} {s:Q4} {i:Nat},h[b]? =some (.cells (q4 s) t (0,0))→i<4→Wr h ⟨b,0+i,none⟩:=fun B hi=>by rw[aR];exact iV B hi
  simp only[show((0:Int)).toNat*1=0 from rfl,show((1:Int)).toNat*1=1 from rfl,show((2:Int)).toNat*1=2 from rfl,show((3:Int)).toNat*1=3 from rfl]
  refine⟨_,rfl,by decide,_,c (i:=0) a,_,rfl,by decide,_,c (i:=1) a,_,rfl,by decide,w (i:=0) a (by decide),sB (s':=X0 d) a rfl fun h2 m E=>?_⟩
  refine⟨_,rfl,by decide,_,c (i:=1) m,_,rfl,by decide,_,c (i:=0) m,_,rfl,ER ⟨c (i:=0) m,by decide,w (i:=1) m (by decide),sB (s':=Yp (X0 d)) m rfl fun h3 u F=>?_⟩⟩
  refine⟨_,rfl,by decide,_,c (i:=0) u,_,rfl,ER ⟨by decide,w (i:=0) u (by decide),sB (s':=Zp (Yp (X0 d))) u rfl fun W q D=>?_⟩⟩
  refine⟨_,rfl,by decide,_,c (i:=2) q,_,rfl,by decide,_,c (i:=3) q,_,rfl,by decide,w (i:=2) q (by decide),sB (s':=ZX (Zp (Yp (X0 d)))) q rfl fun U e G=>?_⟩
  refine⟨_,rfl,by decide,_,c (i:=3) e,_,rfl,by decide,_,c (i:=2) e,_,rfl,ER ⟨c (i:=2) e,by decide,w (i:=3) e (by decide),sB (s':=aay (ZX (Zp (Yp (X0 d))))) e rfl fun Y o L=>?_⟩⟩
  refine⟨_,rfl,by decide,_,c (i:=0) o,_,rfl,by decide,_,c (i:=3) o,_,rfl,by decide,w (i:=0) o (by decide),sB (s':=aaV (aay (ZX (Zp (Yp (X0 d)))))) o rfl fun Z j H=>?_⟩
  refine⟨_,rfl,by decide,_,c (i:=3) j,_,rfl,by decide,_,c (i:=0) j,_,rfl,ER ⟨c (i:=0) j,by decide,w (i:=3) j (by decide),sB (s':=abr (aaV (aay (ZX (Zp (Yp (X0 d))))))) j rfl fun V p J=>?_⟩⟩
  refine⟨_,rfl,by decide,_,c (i:=2) p,_,rfl,by decide,_,c (i:=1) p,_,rfl,by decide,w (i:=2) p (by decide),sB (s':=abG (abr (aaV (aay (ZX (Zp (Yp (X0 d)))))))) p rfl fun X f C=>?_⟩
  refine⟨_,rfl,by decide,_,c (i:=1) f,_,rfl,by decide,_,c (i:=2) f,_,rfl,ER ⟨c (i:=2) f,by decide,w (i:=1) f (by decide),sB (s':=s09 (abG (abr (aaV (aay (ZX (Zp (Yp (X0 d))))))))) f rfl fun T k z=>?_⟩⟩
  refine⟨_,rfl,by decide,_,c (i:=2) k,_,rfl,ER ⟨by decide,w (i:=2) k (by decide),sB (s':=mC d) k rfl fun Q y A=>?_⟩⟩
  rw[dd v (by omega)];refine R (i+1,mC d) _ _ ⟨rfl,v,y,N.tr (E.tr (F.tr (D.tr (G.tr (L.tr (H.tr (J.tr (C.tr (z.tr A))))))))),?_⟩ (by simp only;omega);simp only;rw[←x,show n-i=(n-(i+1))+1 by omega];rfl
 ·obtain rfl:i=n:=by omega
  rw[Nat.sub_self]at x;have x:d=qU i s:=x;rw[←x]at P;exact P _ a N
end Go.Proofs
namespace Go.Proofs
open Go.Lift
def PU(s:ByteArray)(i:Nat):Int:=match s[i]? with|some b=>(b.toNat:Int)|none=>0
def Zo(b:Int)(n:Int):Int:=IntKind.wrap .u64 ((IntKind.wrap .u64 b)*2^(min n.toNat (IntKind.bits .u64)))
def wj(s:ByteArray):Nat→Int→Int
 |0,t=>t
 |k+1,t=>wj s k (Ij t (if k=0 then IntKind.wrap .u64 (PU s 0)else Zo (PU s k) ((8*k:Nat):Int)))
def Bi(s:ByteArray):Int:=wj s s.size 0
theorem wr{s:ByteArray}{i:Nat}(h:i<s.size):∃b,s[i]? =some b∧PU s i=(b.toNat:Int):=⟨s[i],getElem?_pos s i h,by simp[PU,getElem?_pos s i h]⟩
theorem S7{s:ByteArray}(C:s.size≤8){h:ae}{K:Int→ae→Prop}(f:K (Bi s) h):HC PG yr [.string s] [.c (.int .u64)] K h:=by
 refine Sz s ?_;unfold Jz;refine Join.intro (fun t h'=>h'=h∧1≤s.size∧wj s 1 t=wj s s.size 0) (fun L k=>?_) ?_
 ·refine Join.intro (fun t h'=>h'=h∧2≤s.size∧wj s 2 t=wj s s.size 0) (fun R2 m=>?_) ?_
  ·refine Join.intro (fun t h'=>h'=h∧3≤s.size∧wj s 3 t=wj s s.size 0) (fun P j=>?_) ?_
   ·refine Join.intro (fun t h'=>h'=h∧4≤s.size∧wj s 4 t=wj s s.size 0) (fun F o=>?_) ?_
    ·refine Join.intro (fun t h'=>h'=h∧5≤s.size∧wj s 5 t=wj s s.size 0) (fun I n=>?_) ?_
     ·refine Join.intro (fun t h'=>h'=h∧6≤s.size∧wj s 6 t=wj s s.size 0) (fun N g=>?_) ?_
      ·refine Join.intro (fun t h'=>h'=h∧7≤s.size∧wj s 7 t=wj s s.size 0) (fun J p=>?_) ?_
       ·refine CondP.intro (fun e=>?_) fun u=>?_
        ·have e:s.size=8:=by have:=of_decide_eq_true (by simpa using e:decide ((s.size:Int)=8)=true);omega
         obtain⟨b,a,hv⟩:=wr (s:=s) (i:=7) (by omega);refine⟨b,by decide,a,by decide,p _ _ ⟨rfl,by omega,?_⟩⟩
         rw[e,←hv];rfl
        refine CondP.intro (fun e=>?_) fun x=>?_
        ·have e:s.size=7:=by have:=of_decide_eq_true (by simpa using e:decide ((s.size:Int)=7)=true);omega
         exact p _ _ ⟨rfl,by omega,by rw[e]⟩
        refine CondP.intro (fun e=>?_) fun v=>?_
        ·have e:s.size=6:=by have:=of_decide_eq_true (by simpa using e:decide ((s.size:Int)=6)=true);omega
         exact g _ _ ⟨rfl,by omega,by rw[e]⟩
        refine CondP.intro (fun e=>?_) fun y=>?_
        ·have e:s.size=5:=by have:=of_decide_eq_true (by simpa using e:decide ((s.size:Int)=5)=true);omega
         exact n _ _ ⟨rfl,by omega,by rw[e]⟩
        refine CondP.intro (fun e=>?_) fun q=>?_
        ·have e:s.size=4:=by have:=of_decide_eq_true (by simpa using e:decide ((s.size:Int)=4)=true);omega
         exact o _ _ ⟨rfl,by omega,by rw[e]⟩
        refine CondP.intro (fun e=>?_) fun A=>?_
        ·have e:s.size=3:=by have:=of_decide_eq_true (by simpa using e:decide ((s.size:Int)=3)=true);omega
         exact j _ _ ⟨rfl,by omega,by rw[e]⟩
        refine CondP.intro (fun e=>?_) fun z=>?_
        ·have e:s.size=2:=by have:=of_decide_eq_true (by simpa using e:decide ((s.size:Int)=2)=true);omega
         exact m _ _ ⟨rfl,by omega,by rw[e]⟩
        refine CondP.intro (fun e=>?_) fun w=>?_
        ·have e:s.size=1:=by have:=of_decide_eq_true (by simpa using e:decide ((s.size:Int)=1)=true);omega
         exact k _ _ ⟨rfl,by omega,by rw[e]⟩
        have e:s.size=0:=by
         have M:¬(s.size:Int)=1:=by simpa using w
         have E:¬(s.size:Int)=2:=by simpa using z
         have O:¬(s.size:Int)=3:=by simpa using A
         have q4:¬(s.size:Int)=4:=by simpa using q
         have B:¬(s.size:Int)=5:=by simpa using y
         have G:¬(s.size:Int)=6:=by simpa using v
         have H:¬(s.size:Int)=7:=by simpa using x
         have D:¬(s.size:Int)=8:=by simpa using u
         omega
        unfold Bi at f;rw[e]at f;exact f
       ·rintro t _ ⟨rfl,d,c⟩
        obtain⟨b,a,hv⟩:=wr (s:=s) (i:=6) (by omega);refine⟨b,by decide,a,by decide,g _ _ ⟨rfl,by omega,?_⟩⟩
        rw[←c,←hv];rfl
      ·rintro t _ ⟨rfl,d,c⟩
       obtain⟨b,a,hv⟩:=wr (s:=s) (i:=5) (by omega);refine⟨b,by decide,a,by decide,n _ _ ⟨rfl,by omega,?_⟩⟩
       rw[←c,←hv];rfl
     ·rintro t _ ⟨rfl,d,c⟩
      obtain⟨b,a,hv⟩:=wr (s:=s) (i:=4) (by omega);refine⟨b,by decide,a,by decide,o _ _ ⟨rfl,by omega,?_⟩⟩
      rw[←c,←hv];rfl
    ·rintro t _ ⟨rfl,d,c⟩
     obtain⟨b,a,hv⟩:=wr (s:=s) (i:=3) (by omega);refine⟨b,by decide,a,by decide,j _ _ ⟨rfl,by omega,?_⟩⟩
     rw[←c,←hv];rfl
   ·rintro t _ ⟨rfl,d,c⟩
    obtain⟨b,a,hv⟩:=wr (s:=s) (i:=2) (by omega);refine⟨b,by decide,a,by decide,m _ _ ⟨rfl,by omega,?_⟩⟩
    rw[←c,←hv];rfl
  ·rintro t _ ⟨rfl,d,c⟩
   obtain⟨b,a,hv⟩:=wr (s:=s) (i:=1) (by omega);refine⟨b,by decide,a,by decide,k _ _ ⟨rfl,by omega,?_⟩⟩
   rw[←c,←hv];rfl
 ·rintro t _ ⟨rfl,d,c⟩
  obtain⟨b,a,hv⟩:=wr (s:=s) (i:=0) (by omega);refine⟨b,by decide,a,?_⟩
  unfold Bi at f;rw[←c]at f;rw[←hv];exact f
end Go.Proofs
namespace Go.Proofs
open Go.Lift
def uz(m:Int)(s:Q4):Q4:=
 let r:=qU 2 (s.1,s.2.1,s.2.2.1,dX s.2.2.2 m)
 (dX r.1 m,r.2)
theorem Te{m:Int}{h:ae}{b:Nat}{t:TypeId}{s:Q4}(d:h[b]? =some (.cells (q4 s) t (0,0))) {K:Unit→ae→Prop}
  (g:∀h',h'[b]? =some (.cells (q4 (uz m s)) t (0,0))→Upd (· =b) h h'→K () h'):HC PG oM [.pointer (some ⟨b,0,none⟩),.int .u64 m] [] K h:=by
 refine Fx _ _ ?_;unfold xU bI cl db uy;have c:∀{h:ae} {s:Q4} {i:Nat},h[b]? =some (.cells (q4 s) t (0,0))→aP h ⟨b,0+i,none⟩=(q4 s)[i]?:=fun d=>by rw[aR];exact bH d
 have w:∀{h:ae} {s:Q4} {i:Nat},h[b]? =some (.cells (q4 s) t (0,0))→i<4→Wr h ⟨b,0+i,none⟩:=fun d hi=>by rw[aR];exact iV d hi
 simp only[show((0:Int)).toNat*1=0 from rfl,show((3:Int)).toNat*1=3 from rfl]
 refine⟨_,rfl,by decide,_,c (i:=3) d,_,rfl,by decide,w (i:=3) d (by decide),sB (s':=(s.1,s.2.1,s.2.2.1,dX s.2.2.2 m)) d rfl fun h2 o e=>?_⟩
 refine Lw (n:=2) (by omega) o fun q a f=>?_
 have p:uz m s=(dX (qU 2 (s.1,s.2.1,s.2.2.1,dX s.2.2.2 m)).1 m,(qU 2 (s.1,s.2.1,s.2.2.1,dX s.2.2.2 m)).2):=by unfold uz;rfl
 rw[p]at g;generalize qU 2 (s.1,s.2.1,s.2.2.1,dX s.2.2.2 m)=r at a g;refine⟨_,rfl,by decide,_,c (i:=0) a,_,rfl,by decide,w (i:=0) a (by decide),sB (s':=(dX r.1 m,r.2)) a rfl fun u j k=>?_⟩
 exact g _ j (e.tr (f.tr k))
def FU:Nat→ByteArray→Q4→ByteArray×Q4
 |0,s,q=>(s,q)
 |n+1,s,q=>if 8≤s.size then FU n (s.extract 8 s.size) (uz (Bi (s.extract 0 8)) q)else(s,q)
def aak(r:Q4):Int:=dX (dX (dX r.1 r.2.1) r.2.2.1) r.2.2.2
def YZ(q:Q4):Int:=aak (qU 4 (q.1,q.2.1,dX q.2.2.1 255,q.2.2.2))
def aaT(n:Nat)(g:ByteArray×Q4):Int:=YZ (uz (Ij (Bi g.1) (Zo (n:Int) 56)) g.2)
def QL(k0 k1:Int)(s:ByteArray):Int:=
 aaT s.size (FU s.size s (dX k0 8317987319222330741,dX k1 7237128888997146477,dX k0 7816392313619706465,dX k1 8387220255154660723))
theorem Y0{a:ae}{b:Nat}{t:TypeId}{r:Q4}(f:a[b]? =some (.cells (q4 r) t (0,0))) {K:Int→Prop} (g:K (aak r)):
  (((0:Int)≤(0:Int)∧(0:Int)<((4:Nat):Int))∧
   ∃v30:Int,aP a (adr ⟨b,0,none⟩ ((0:Int).toNat*1))=some (.int .u64 v30)∧
   (((0:Int)≤(1:Int)∧(1:Int)<((4:Nat):Int))∧
    ∃v31:Int,aP a (adr ⟨b,0,none⟩ ((1:Int).toNat*1))=some (.int .u64 v31)∧
    Bd (IntKind.wrap .u64 (av (IntKind.bits .u64) v30^^^av (IntKind.bits .u64) v31).toNat:Int) (fun n32=>
     (((0:Int)≤(2:Int)∧(2:Int)<((4:Nat):Int))∧
      ∃v33:Int,aP a (adr ⟨b,0,none⟩ ((2:Int).toNat*1))=some (.int .u64 v33)∧
      Bd (IntKind.wrap .u64 (av (IntKind.bits .u64) n32^^^av (IntKind.bits .u64) v33).toNat:Int) (fun d=>
       (((0:Int)≤(3:Int)∧(3:Int)<((4:Nat):Int))∧
        ∃v35:Int,aP a (adr ⟨b,0,none⟩ ((3:Int).toNat*1))=some (.int .u64 v35)∧
        Bd (IntKind.wrap .u64 (av (IntKind.bits .u64) d^^^av (IntKind.bits .u64) v35).toNat:Int) (fun e=>
         K e))))))):=by
 have c:∀{i:Nat},aP a ⟨b,0+i,none⟩=(q4 r)[i]?:=by intro i;rw[aR];exact bH f
 exact⟨by decide,_,c (i:=0),by decide,_,c (i:=1),by decide,_,c (i:=2),by decide,_,c (i:=3),g⟩
theorem YY{a:ae}{b:Nat}{t:TypeId}{q:Q4}(d:a[b]? =some (.cells (q4 q) t (0,0))) {K:Unit→ae→Prop}
  (o:∀h',h'[b]? =some (.cells (q4 (qU 4 (q.1,q.2.1,dX q.2.2.1 255,q.2.2.2))) t (0,0))→Upd (· =b) a h'→K () h'):
  (((0:Int)≤(2:Int)∧(2:Int)<((4:Nat):Int))∧
   ∃v25:Int,aP a (adr ⟨b,0,none⟩ ((2:Int).toNat*1))=some (.int .u64 v25)∧
   Bd (IntKind.wrap .u64 (av (IntKind.bits .u64) v25^^^av (IntKind.bits .u64) 255).toNat:Int) (fun g=>
    (((0:Int)≤(2:Int)∧(2:Int)<((4:Nat):Int))∧
     (Wr a (adr ⟨b,0,none⟩ ((2:Int).toNat*1))∧
      At (hset a (adr ⟨b,0,none⟩ ((2:Int).toNat*1)) (.int .u64 g)) (fun e=>
       HC PG kD [.pointer (some ⟨b,0,none⟩),.int .i64 4] [] K e))))):=by
 have c:∀{i:Nat},aP a ⟨b,0+i,none⟩=(q4 q)[i]?:=by intro i;rw[aR];exact bH d
 refine⟨by decide,_,c (i:=2),by decide,by rw[show((2:Int)).toNat*1=2 from rfl,cj];exact iV d (by simp[q4]),?_⟩
 refine sB (s':=(q.1,q.2.1,dX q.2.2.1 255,q.2.2.2)) d rfl fun s j f=>?_
 exact Lw (n:=4) (by omega) j fun p k m=>o p k (f.tr m)
theorem bP{h:ae}{k:ae→Prop}(a:k h):At h k:=a
theorem ZT{k0 k1:Int}{s:ByteArray}{h:ae}{K:Int→ae→Prop}(C:∀h',Upd No h h'→K (QL k0 k1 s) h'):HC PG E9 [.agg #[.int .u64 k0,.int .u64 k1],.string s] [.c (.int .u64)] K h:=by
 refine Vx (k0,k1) s ?_;unfold Ms bI cl ag db nv uy aaY Uc Ue X7;have p:=Upd.hnew No h [.int .u64 k0,.int .u64 k1] na;have b1:=cp h [.int .u64 k0,.int .u64 k1] na;have H:=iY h [.int .u64 k0,.int .u64 k1] na;refine bP ?_;simp only[cY h];generalize hnew h [.int .u64 k0,.int .u64 k1] na=h1 at p b1 H;refine⟨k0,by rw[cj,bH b1];rfl,k1,by rw[cj,bH b1];rfl,k0,by rw[cj,bH b1];rfl,k1,by rw[cj,bH b1];rfl,?_⟩
 have F:=Upd.hnew No h1 [.int .u64 0,.int .u64 0,.int .u64 0,.int .u64 0] kX;have b2:=cp h1 [.int .u64 0,.int .u64 0,.int .u64 0,.int .u64 0] kX;simp only[cY h1];simp only[Bd];refine bP ?_;refine⟨.inr ⟨_,rfl,fun j E=>by rw[cj];exact iV b2 (by simp at E⊢;omega)⟩,?_⟩
 refine bP ?_;rw[kT _ _ 0 0 _ b2 (by simp)];have b3:=kY (o:=.cells (q4 (dX k0 8317987319222330741,dX k1 7237128888997146477,dX k0 7816392313619706465,dX k1 8387220255154660723)) kX (0,0)) b2;have J:Upd No h _:=p.tr (F.trans (M':=(· =h1.size)) (Upd.set (hnew h1 [.int .u64 0,.int .u64 0,.int .u64 0,.int .u64 0] kX) (.cells (q4 (dX k0 8317987319222330741,dX k1 7237128888997146477,dX k0 7816392313619706465,dX k1 8387220255154660723)) kX (0,0)) rfl) fun b d=>.inr (Nat.le_of_eq d.symm))
 refine LoopP.ghost (fun(g:Nat×Q4) (a:ByteArray) h'=>a.size≤g.1∧h'[h1.size]? =some (.cells (q4 g.2) kX (0,0))∧Upd No h h'∧FU g.1 a g.2=FU s.size s (dX k0 8317987319222330741,dX k1 7237128888997146477,dX k0 7816392313619706465,dX k1 8387220255154660723)) (fun g=>g.1) (s.size,_)
  ⟨al _,b3,J,rfl⟩ ?_
 rintro I ⟨n,q⟩ a h' ⟨L,d,A,u⟩ G;simp only at L d u;have f:∀b,b=h1.size→No b∨h.size≤b:=fun b d=>.inr (by omega)
 refine az (fun t=>?_) fun x=>?_
 ·have t:8≤a.size:=by omega
  cases n with
  |zero=>omega
  |succ n=>
   refine⟨by omega,S7 (by rw[gk];show min 8 _-0≤8;omega) (Te d fun h2 e k=>⟨by omega,?_⟩)⟩
   have D:((8:Int)).toNat=8:=rfl;rw[D]at e⊢;refine G (n,uz (Bi (a.extract 0 8)) q) _ _ ⟨by simp only[gk];omega,e,A.trans k f,?_⟩ (by simp only;omega);rw[←u];simp only[FU,if_pos t]
 ·have x:a.size<8:=by omega
  have u:(a,q)=FU s.size s (dX k0 8317987319222330741,dX k1 7237128888997146477,dX k0 7816392313619706465,dX k1 8387220255154660723):=by
   rw[←u];cases n with
   |zero=>rfl
   |succ n=>simp only[FU,if_neg (show ¬8≤a.size by omega)]
  have c:∀{h:ae} {s:Q4} {i:Nat},h[h1.size]? =some (.cells (q4 s) kX (0,0))→aP h ⟨h1.size,0+i,none⟩=(q4 s)[i]?:=fun d=>by rw[aR];exact bH d
  have w:∀{h:ae} {s:Q4} {i:Nat},h[h1.size]? =some (.cells (q4 s) kX (0,0))→i<4→Wr h ⟨h1.size,0+i,none⟩:=fun d hi=>by rw[aR];exact iV d hi
  have z:QL k0 k1 s=YZ (uz (Ij (Bi a) (Zo (s.size:Int) 56)) q):=by unfold QL;rw[←u];rfl
  rw[z]at C;refine S7 (by omega) ⟨by decide,Te (m:=Ij (Bi a) (Zo (s.size:Int) 56)) d fun h2 e k=>?_⟩
  refine YY e fun B y v=>Y0 (K:=fun n=>K n B) y ?_
  exact C B ((A.trans k f).trans v f)
structure Hs where
 k0:Int
 k1:Int
 mask:Int
def eP(h:Hs)(s:ByteArray):Int:=PY (QL h.k0 h.k1 s) h.mask
theorem uP{x:Hs}{s:ByteArray}{h:ae}{K:Int→ae→Prop}(c:∀h',Upd No h h'→K (eP x s) h'):HC PG eK [.agg #[.int .u64 x.k0,.int .u64 x.k1,.int .u64 x.mask],.string s] [.c (.int .u64)] K h:=by
 refine DY (x.k0,x.k1,x.mask) s ?_;unfold wD ag AC dK aaK;have a:=Upd.hnew No h [.int .u64 x.k0,.int .u64 x.k1,.int .u64 x.mask] cC;have b1:=cp h [.int .u64 x.k0,.int .u64 x.k1,.int .u64 x.mask] cC;simp only[At,cY h];generalize hnew h [.int .u64 x.k0,.int .u64 x.k1,.int .u64 x.mask] cC=h1 at a b1;refine⟨x.k0,by rw[cj,cj,bH b1];rfl,x.k1,by rw[cj,cj,bH b1];rfl,x.mask,by rw[cj,bH b1];rfl,?_⟩
 refine ZT fun h2 b=>⟨by rw[cj,bH (b.get0 b1)];rfl,c _ (a.tr b)⟩
theorem Gg(x:Hs)(s:ByteArray):0≤eP x s∧eP x s<18446744073709551616:=EI _
end Go.Proofs
namespace Go.Proofs
open Go Go.Lift
abbrev eC(x:ByteArray×ByteArray):List Value:= [.string x.1,.string x.2]
theorem gq(x:ByteArray×ByteArray):(eC x).length=2∧0<2:=⟨rfl,by omega⟩
theorem yj:∀xs:List (ByteArray×ByteArray),cG (xs.flatMap eC)=true
 | []=>rfl
 |x::xs=>by rw[aO];exact kZ rfl (yj xs)
theorem Nd{h:ae}{a b o d c e f:Nat}{g cw:Array Value}{j tb:TypeId}(hv:h[a]? =some (.cells g j (0,0))) (k:h[b]? =some (.cells cw tb (0,0))) (p:a≠b) (n:cw.size≠0) {K:Bool→ae→Prop} (m:K false h):
  HC PG jY [.slice (some ⟨a,0,none⟩) d c,.slice (some ⟨b,o,none⟩) e f] [.c .bool] K h:=by
 refine⟨fun w i=>.inr ⟨.bool false,w,?_,Tame.refl w,false,rfl,i▸m⟩⟩
 subst i;rw[uU];have:=Lib.run_overlaps_apart (P:=PG) w cK mz aq (by kernel_rfl) (cA PG aq) (tN (by kernel_rfl)) ⟨a,0,none⟩ ⟨b,o,none⟩ d c e f p j tb g.size cw.size
  (by simp[World.shape?,hv]) (by simp[World.shape?,k]) n (by simp[World.frozen?,hv]) (by simp[World.frozen?,hv])
 rw[show([Value.slice (some ⟨a,0,none⟩) d c,Value.slice (some ⟨b,o,none⟩) e f]:List Value).toArray= #[.slice (some ⟨a,0,none⟩) d c,.slice (some ⟨b,o,none⟩) e f]from rfl,this]
 rfl
set_option maxRecDepth 4000 in
theorem RH{M:Nat→Prop}{h:ae}{s:SliceV}{xs:List (ByteArray×ByteArray)}(S:OwnS eC 2 aq M h s xs){k:Nat}(hkl:k≤xs.length)(hn:(xs.length+1)*32≤140737488355328){x:ByteArray×ByteArray}{m:Nat}(hv:h[m]? =some (.cells (eC x).toArray aq (0,0)))
  (U:¬M m) (hM:∀b,h.size≤b→M b) {K:SliceV→ae→Prop} (Y:∀s' h',OwnS eC 2 aq M h' s' (xs.take k++x::xs.drop k)→Upd M h h'→K s' h'):
  HC PG dB [.slice s.a s.len s.cap,.int .i64 k,.slice (some ⟨m,0,none⟩) 1 1] [.c .slice] K h:=by
 refine o8 s k ⟨some ⟨m,0,none⟩,1,1⟩ ?_;unfold jE lM;have u:=S.len;have hcap:=S.cap;have Q:SRow h (some ⟨m,0,none⟩) (1*2) (eC x):=⟨rfl,.inr ⟨_,rfl,oI hv fun i v hi=>by simpa using hi⟩⟩
 refine⟨by omega,aj.2 ?_⟩;refine CondP.intro (fun e=>?_) fun e=>?_
 ·have e:k=xs.length:=by have:=of_decide_eq_true (by simpa using e:decide ((k:Int)=(s.len:Int))=true);omega
  subst e;refine⟨_,Q,AppP.own (ys:= [x]) S rfl (by simp) rfl rfl (by omega) (by simp;omega) (hM _ (al _)) fun s' h' ho hu=>Y s' h' ?_ hu⟩
  rw[bS,mc];exact ho
 have hlt:k<xs.length:=by
  rcases bW k xs.length with h|h
  ·exact h
  ·have:((k:Int)==(s.len:Int))=true:=by rw[beq_iff_eq];omega
   rw[this]at e;cases e
 rcases S.blk with h0|⟨b,g,ha,p,hc,hr⟩
 ·omega
 have j:((xs.take k).flatMap eC).length=k*2:=by rw[lW gq,aH,bJ hkl]
 have n:((xs.drop k).flatMap eC).length=(xs.length-k)*2:=by rw[lW gq,aV]
 have L:m≠b:=fun e=>U (e▸p)
 rw[Aa (f:=eC) xs k]at hc;have a:(xs.take k++x::xs.drop k).flatMap eC=(xs.take k).flatMap eC++(eC x++(xs.drop k).flatMap eC):=by rw[bO,aO]
 have d:=yj (xs.drop k);have c:(eC x).length=2:=rfl;have z:cG (eC x)=true:=rfl;generalize hAe:(xs.take k).flatMap eC=A at j hc a;generalize hBe:(xs.drop k).flatMap eC=B at n hc a d;generalize eC x=X at Q c hv a z;rw[ha];have w1:IntKind.wrap .i64 ((xs.length:Int)+((1:Nat):Int))=((xs.length+1:Nat):Int):=by rw[fx (by omega)];omega
 have w2:IntKind.wrap .i64 ((k:Int)+((1:Nat):Int))=((k+1:Nat):Int):=by rw[fx (by omega)];omega
 have w3:IntKind.wrap .i64 (((xs.length+1:Nat):Int)-(k:Int))=((xs.length+1-k:Nat):Int):=by rw[fx (by omega)];omega
 simp only[w1,w2,w3,aU,u];refine az (fun hgt=>?_) fun hle=>?_
 ·
  have O:s.cap=xs.length:=by omega
  refine Join.plain ⟨by omega,⟨by omega,by omega,by omega,by omega⟩,fun hin=>?_,fun J=>?_⟩
  ·omega
  ·refine⟨A,_,?_,rfl,by omega,Go.growslice_fits J (by omega),fun D w=>?_⟩
   ·rw[sub_zero]
    exact ni hc (by rw[j];omega) (by simp only[cL,eZ];rw[ar,←j,gB (al _),bS])
   ·simp only[aU]at w⊢
    have T:=Upd.hnew No h (A++eh (xs.length+1-k) [.string (⟨#[]⟩:ByteArray),.string (⟨#[]⟩:ByteArray)]++eh (D-(k-0+(xs.length+1-k))) [.string (⟨#[]⟩:ByteArray),.string (⟨#[]⟩:ByteArray)]) aq;have bn:=cp h (A++eh (xs.length+1-k) [.string (⟨#[]⟩:ByteArray),.string (⟨#[]⟩:ByteArray)]++eh (D-(k-0+(xs.length+1-k))) [.string (⟨#[]⟩:ByteArray),.string (⟨#[]⟩:ByteArray)]) aq
    have C:(eh (xs.length+1-k) [.string (⟨#[]⟩:ByteArray),.string (⟨#[]⟩:ByteArray)]).length=(xs.length+1-k)*2:=nT _ _;have V:(eh (D-(k-0+(xs.length+1-k))) [.string (⟨#[]⟩:ByteArray),.string (⟨#[]⟩:ByteArray)]).length=(D-(k-0+(xs.length+1-k)))*2:=nT _ _;have t:k-0+(xs.length+1-k)=xs.length+1:=by omega
    rw[cY];have hsz:h.size≠m:=fun e=>by have:=bD hv;omega
    have H:h.size≠b:=fun e=>by have:=bD hc;omega
    have E:=T.get0 hc;have G:=T.get0 hv;generalize hnew h _ aq=h9 at T bn E G;rw[t]at w V⊢;have Z:fa 1 (xs.length+1-k)=1:=bJ (by omega);have m2:fa (xs.length-k) (xs.length+1-(k+1))=xs.length-k:=bJ (by omega);rw[Z];have xr9:SRow h9 (some ⟨m,0,none⟩) (1*2) X:=ni G (by rw[c]) (by rw[cL,bm];rw[c];omega)
    refine⟨by omega,?_⟩;rw[lF (by omega)];refine mX xr9 z bn (by simp only[ac,j,C];omega) fun h11 F o=>⟨by omega,?_⟩
    simp only[Bd];rw[lF (by omega),lF (by omega),m2];refine⟨by omega,?_⟩;have y:=o.get E (fun e=>H e.symm)
    have br:SRow h11 (some ⟨b,0+k*2,none⟩) ((xs.length-k)*2) B:=ni y n (by
     rw[aR,ar,←j,gR,←n,iq])
    refine mX br d F ?_ fun h16 N I=>?_
    ·simp only[ac,aH,aV,j,C,c];omega
    ·refine Y _ _ ⟨by simp;omega,gq,w,.inr ⟨h.size,eh (D-(xs.length+1)) [.string (⟨#[]⟩:ByteArray),.string (⟨#[]⟩:ByteArray)],rfl,hM _ (al _),?_,by rw[nT];rfl⟩⟩ ((T.wide.trans (M':=(· =h.size)) o fun b p=>.inl (p▸hM _ (al _))).trans (M':=(· =h.size)) I fun b p=>.inl (p▸hM _ (al _)))
     rw[N,a];have:=Nk (A:=A) (X:=X) (B:=B) (Z1:=eh (xs.length+1-k) [.string (⟨#[]⟩:ByteArray),.string (⟨#[]⟩:ByteArray)]) (Z2:=eh (D-(xs.length+1)) [.string (⟨#[]⟩:ByteArray),.string (⟨#[]⟩:ByteArray)]) (r:=(xs.length-k)*2) j c (by rw[C,←iH];congr 1;omega);rw[t,←this];simp only[aR,iH,ua]
 ·have O:xs.length+1≤s.cap:=by omega
  refine⟨by omega,?_⟩;simp only[Bd,eZ];rw[sub_zero,lF (show s.cap≠k+1 by omega),lF (show s.cap≠k by omega)]
  refine⟨by omega,?_⟩;have hrl:2≤g.length:=by rw[hr];exact rN _ (by omega)
  refine Nd hv hc L (by rw[dE,ac];omega) ?_;refine au.2 ⟨by omega,by omega,?_⟩
  have Z:fa 1 (xs.length+1-k)=1:=bJ (by omega);have m2:fa (xs.length+1-k) (xs.length+1-(k+1))=xs.length-k:=by
   rw[show xs.length+1-(k+1)=xs.length-k by omega];exact g9 (by omega)
  rw[m2];have br:SRow h (some ⟨b,0+k*2,none⟩) ((xs.length-k)*2) B:=ni hc n (by
   rw[aR,ar,←j,gR,←n,iq])
  refine mX br d hc (by simp only[ac,j,n];omega) fun h1 W P=>⟨by omega,?_⟩
  rw[Z];have xr1:SRow h1 (some ⟨m,0,none⟩) (1*2) X:=ni (P.get hv L) (by rw[c]) (by rw[cL,bm];rw[c];omega);refine mX xr1 z W (by simp only[ac,aH,aV,j,n];omega) fun h2 hb2 hu2=>?_
  refine Y _ _ ⟨by simp;omega,gq,O,.inr ⟨b,g.drop 2,rfl,p,?_,?_⟩⟩ ((P.mono fun _ e=>.inl (e▸p)).tr (hu2.mono fun _ e=>.inl (e▸p)))
  ·rw[hb2,a]
   have:=RJ (A:=A) (X:=X) (B:=B) (R:=g) (q:=2) (r:=(xs.length-k)*2) j n hrl;rw[←this];simp only[aR,iH,ua]
  ·rw[aV,hr]
   simp only;rw[u];omega
abbrev tI(x:Option Addr):List Value:= [.pointer x]
theorem ui(x:Option Addr):(tI x).length=1∧0<1:=⟨rfl,by omega⟩
theorem Hi:∀xs:List (Option Addr),cG (xs.flatMap tI)=true
 | []=>rfl
 |x::xs=>by rw[aO];exact kZ rfl (Hi xs)
theorem Nf{h:ae}{a b o d c e f:Nat}{g cw:Array Value}{j tb:TypeId}(hv:h[a]? =some (.cells g j (0,0))) (k:h[b]? =some (.cells cw tb (0,0))) (p:a≠b) (n:cw.size≠0) {K:Bool→ae→Prop} (m:K false h):
  HC PG ju [.slice (some ⟨a,0,none⟩) d c,.slice (some ⟨b,o,none⟩) e f] [.c .bool] K h:=by
 refine⟨fun w i=>.inr ⟨.bool false,w,?_,Tame.refl w,false,rfl,i▸m⟩⟩
 subst i;rw[tV];have:=Lib.run_overlaps_apart (P:=PG) w ud mz cg (by kernel_rfl) (cA PG cg) (tN (by kernel_rfl)) ⟨a,0,none⟩ ⟨b,o,none⟩ d c e f p j tb g.size cw.size
  (by simp[World.shape?,hv]) (by simp[World.shape?,k]) n (by simp[World.frozen?,hv]) (by simp[World.frozen?,hv])
 rw[show([Value.slice (some ⟨a,0,none⟩) d c,Value.slice (some ⟨b,o,none⟩) e f]:List Value).toArray= #[.slice (some ⟨a,0,none⟩) d c,.slice (some ⟨b,o,none⟩) e f]from rfl,this]
 rfl
set_option maxRecDepth 4000 in
theorem RI{M:Nat→Prop}{h:ae}{s:SliceV}{xs:List (Option Addr)}(S:OwnS tI 1 cg M h s xs){k:Nat}(hkl:k≤xs.length)(hn:(xs.length+1)*8≤140737488355328){x:Option Addr}{m:Nat}(hv:h[m]? =some (.cells (tI x).toArray cg (0,0)))
  (U:¬M m) (hM:∀b,h.size≤b→M b) {K:SliceV→ae→Prop} (Y:∀s' h',OwnS tI 1 cg M h' s' (xs.take k++x::xs.drop k)→Upd M h h'→K s' h'):
  HC PG c7 [.slice s.a s.len s.cap,.int .i64 k,.slice (some ⟨m,0,none⟩) 1 1] [.c .slice] K h:=by
 refine mZ s k ⟨some ⟨m,0,none⟩,1,1⟩ ?_;unfold iC;have u:=S.len;have hcap:=S.cap;have Q:SRow h (some ⟨m,0,none⟩) (1*1) (tI x):=⟨rfl,.inr ⟨_,rfl,oI hv fun i v hi=>by simpa using hi⟩⟩
 refine⟨by omega,aj.2 ?_⟩;refine CondP.intro (fun e=>?_) fun e=>?_
 ·have e:k=xs.length:=by have:=of_decide_eq_true (by simpa using e:decide ((k:Int)=(s.len:Int))=true);omega
  subst e;refine⟨_,Q,AppP.own (ys:= [x]) S rfl (by simp) rfl rfl (by omega) (by simp;omega) (hM _ (al _)) fun s' h' ho hu=>Y s' h' ?_ hu⟩
  rw[bS,mc];exact ho
 have hlt:k<xs.length:=by
  rcases bW k xs.length with h|h
  ·exact h
  ·have:((k:Int)==(s.len:Int))=true:=by rw[beq_iff_eq];omega
   rw[this]at e;cases e
 rcases S.blk with h0|⟨b,g,ha,p,hc,hr⟩
 ·omega
 have j:((xs.take k).flatMap tI).length=k*1:=by rw[lW ui,aH,bJ hkl]
 have n:((xs.drop k).flatMap tI).length=(xs.length-k)*1:=by rw[lW ui,aV]
 have L:m≠b:=fun e=>U (e▸p)
 rw[Aa (f:=tI) xs k]at hc;have a:(xs.take k++x::xs.drop k).flatMap tI=(xs.take k).flatMap tI++(tI x++(xs.drop k).flatMap tI):=by rw[bO,aO]
 have d:=Hi (xs.drop k);have c:(tI x).length=1:=rfl;have z:cG (tI x)=true:=rfl;generalize hAe:(xs.take k).flatMap tI=A at j hc a;generalize hBe:(xs.drop k).flatMap tI=B at n hc a d;generalize tI x=X at Q c hv a z;rw[ha];have w1:IntKind.wrap .i64 ((xs.length:Int)+((1:Nat):Int))=((xs.length+1:Nat):Int):=by rw[fx (by omega)];omega
 have w2:IntKind.wrap .i64 ((k:Int)+((1:Nat):Int))=((k+1:Nat):Int):=by rw[fx (by omega)];omega
 have w3:IntKind.wrap .i64 (((xs.length+1:Nat):Int)-(k:Int))=((xs.length+1-k:Nat):Int):=by rw[fx (by omega)];omega
 simp only[w1,w2,w3,aU,u];refine az (fun hgt=>?_) fun hle=>?_
 ·
  have O:s.cap=xs.length:=by omega
  refine Join.plain ⟨by omega,⟨by omega,by omega,by omega,by omega⟩,fun hin=>?_,fun J=>?_⟩
  ·omega
  ·refine⟨A,_,?_,rfl,by omega,Go.growslice_fits J (by omega),fun D w=>?_⟩
   ·rw[sub_zero]
    exact ni hc (by rw[j];omega) (by simp only[cL,eZ];rw[ar,←j,gB (al _),bS])
   ·simp only[aU]at w⊢
    have T:=Upd.hnew No h (A++eh (xs.length+1-k) [.pointer none]++eh (D-(k-0+(xs.length+1-k))) [.pointer none]) cg;have bn:=cp h (A++eh (xs.length+1-k) [.pointer none]++eh (D-(k-0+(xs.length+1-k))) [.pointer none]) cg;have C:(eh (xs.length+1-k) [.pointer none]).length=(xs.length+1-k)*1:=nT _ _;have V:(eh (D-(k-0+(xs.length+1-k))) [.pointer none]).length=(D-(k-0+(xs.length+1-k)))*1:=nT _ _
    have t:k-0+(xs.length+1-k)=xs.length+1:=by omega
    rw[cY];have hsz:h.size≠m:=fun e=>by have:=bD hv;omega
    have H:h.size≠b:=fun e=>by have:=bD hc;omega
    have E:=T.get0 hc;have G:=T.get0 hv;generalize hnew h _ cg=h9 at T bn E G;rw[t]at w V⊢;have Z:fa 1 (xs.length+1-k)=1:=bJ (by omega);have m2:fa (xs.length-k) (xs.length+1-(k+1))=xs.length-k:=bJ (by omega);rw[Z];have xr9:SRow h9 (some ⟨m,0,none⟩) (1*1) X:=ni G (by rw[c]) (by rw[cL,bm];rw[c];omega)
    refine⟨by omega,?_⟩;rw[lF (by omega)];refine mX xr9 z bn (by simp only[ac,j,C];omega) fun h11 F o=>⟨by omega,?_⟩
    simp only[Bd];rw[lF (by omega),lF (by omega),m2];refine⟨by omega,?_⟩;have y:=o.get E (fun e=>H e.symm)
    have br:SRow h11 (some ⟨b,0+k*1,none⟩) ((xs.length-k)*1) B:=ni y n (by
     rw[aR,ar,←j,gR,←n,iq])
    refine mX br d F ?_ fun h16 N I=>?_
    ·simp only[ac,aH,aV,j,C,c];omega
    ·refine Y _ _ ⟨by simp;omega,ui,w,.inr ⟨h.size,eh (D-(xs.length+1)) [.pointer none],rfl,hM _ (al _),?_,by rw[nT];rfl⟩⟩ ((T.wide.trans (M':=(· =h.size)) o fun b p=>.inl (p▸hM _ (al _))).trans (M':=(· =h.size)) I fun b p=>.inl (p▸hM _ (al _)))
     rw[N,a];have:=Nk (A:=A) (X:=X) (B:=B) (Z1:=eh (xs.length+1-k) [.pointer none]) (Z2:=eh (D-(xs.length+1)) [.pointer none]) (r:=(xs.length-k)*1) j c (by rw[C,←iH];congr 1;omega);rw[t,←this];simp only[aR,iH,ua]
 ·have O:xs.length+1≤s.cap:=by omega
  refine⟨by omega,?_⟩;simp only[Bd,eZ];rw[sub_zero,lF (show s.cap≠k+1 by omega),lF (show s.cap≠k by omega)]
  refine⟨by omega,?_⟩;have hrl:1≤g.length:=by rw[hr];exact rN _ (by omega)
  refine Nf hv hc L (by rw[dE,ac];omega) ?_;refine au.2 ⟨by omega,by omega,?_⟩
  have Z:fa 1 (xs.length+1-k)=1:=bJ (by omega);have m2:fa (xs.length+1-k) (xs.length+1-(k+1))=xs.length-k:=by
   rw[show xs.length+1-(k+1)=xs.length-k by omega];exact g9 (by omega)
  rw[m2];have br:SRow h (some ⟨b,0+k*1,none⟩) ((xs.length-k)*1) B:=ni hc n (by
   rw[aR,ar,←j,gR,←n,iq])
  refine mX br d hc (by simp only[ac,j,n];omega) fun h1 W P=>⟨by omega,?_⟩
  rw[Z];have xr1:SRow h1 (some ⟨m,0,none⟩) (1*1) X:=ni (P.get hv L) (by rw[c]) (by rw[cL,bm];rw[c];omega);refine mX xr1 z W (by simp only[ac,aH,aV,j,n];omega) fun h2 hb2 hu2=>?_
  refine Y _ _ ⟨by simp;omega,ui,O,.inr ⟨b,g.drop 1,rfl,p,?_,?_⟩⟩ ((P.mono fun _ e=>.inl (e▸p)).tr (hu2.mono fun _ e=>.inl (e▸p)))
  ·rw[hb2,a]
   have:=RJ (A:=A) (X:=X) (B:=B) (R:=g) (q:=1) (r:=(xs.length-k)*1) j n hrl;rw[←this];simp only[aR,iH,ua]
  ·rw[aV,hr]
   simp only;rw[u];omega
abbrev pj(x:Option Addr):List Value:= [.pointer x]
theorem nh(x:Option Addr):(pj x).length=1∧0<1:=⟨rfl,by omega⟩
theorem Hh:∀xs:List (Option Addr),cG (xs.flatMap pj)=true
 | []=>rfl
 |x::xs=>by rw[aO];exact kZ rfl (Hh xs)
theorem Nc{h:ae}{a b o d c e f:Nat}{g cw:Array Value}{j tb:TypeId}(hv:h[a]? =some (.cells g j (0,0))) (k:h[b]? =some (.cells cw tb (0,0))) (p:a≠b) (n:cw.size≠0) {K:Bool→ae→Prop} (m:K false h):
  HC PG ja [.slice (some ⟨a,0,none⟩) d c,.slice (some ⟨b,o,none⟩) e f] [.c .bool] K h:=by
 refine⟨fun w i=>.inr ⟨.bool false,w,?_,Tame.refl w,false,rfl,i▸m⟩⟩
 subst i;rw[sN];have:=Lib.run_overlaps_apart (P:=PG) w su mz bo (by kernel_rfl) (cA PG bo) (tN (by kernel_rfl)) ⟨a,0,none⟩ ⟨b,o,none⟩ d c e f p j tb g.size cw.size
  (by simp[World.shape?,hv]) (by simp[World.shape?,k]) n (by simp[World.frozen?,hv]) (by simp[World.frozen?,hv])
 rw[show([Value.slice (some ⟨a,0,none⟩) d c,Value.slice (some ⟨b,o,none⟩) e f]:List Value).toArray= #[.slice (some ⟨a,0,none⟩) d c,.slice (some ⟨b,o,none⟩) e f]from rfl,this]
 rfl
set_option maxRecDepth 4000 in
theorem RG{M:Nat→Prop}{h:ae}{s:SliceV}{xs:List (Option Addr)}(S:OwnS pj 1 bo M h s xs){k:Nat}(hkl:k≤xs.length)(hn:(xs.length+1)*8≤140737488355328){x:Option Addr}{m:Nat}(hv:h[m]? =some (.cells (pj x).toArray bo (0,0)))
  (U:¬M m) (hM:∀b,h.size≤b→M b) {K:SliceV→ae→Prop} (Y:∀s' h',OwnS pj 1 bo M h' s' (xs.take k++x::xs.drop k)→Upd M h h'→K s' h'):
  HC PG fq [.slice s.a s.len s.cap,.int .i64 k,.slice (some ⟨m,0,none⟩) 1 1] [.c .slice] K h:=by
 refine mg s k ⟨some ⟨m,0,none⟩,1,1⟩ ?_;unfold hJ;have u:=S.len;have hcap:=S.cap;have Q:SRow h (some ⟨m,0,none⟩) (1*1) (pj x):=⟨rfl,.inr ⟨_,rfl,oI hv fun i v hi=>by simpa using hi⟩⟩
 refine⟨by omega,aj.2 ?_⟩;refine CondP.intro (fun e=>?_) fun e=>?_
 ·have e:k=xs.length:=by have:=of_decide_eq_true (by simpa using e:decide ((k:Int)=(s.len:Int))=true);omega
  subst e;refine⟨_,Q,AppP.own (ys:= [x]) S rfl (by simp) rfl rfl (by omega) (by simp;omega) (hM _ (al _)) fun s' h' ho hu=>Y s' h' ?_ hu⟩
  rw[bS,mc];exact ho
 have hlt:k<xs.length:=by
  rcases bW k xs.length with h|h
  ·exact h
  ·have:((k:Int)==(s.len:Int))=true:=by rw[beq_iff_eq];omega
   rw[this]at e;cases e
 rcases S.blk with h0|⟨b,g,ha,p,hc,hr⟩
 ·omega
 have j:((xs.take k).flatMap pj).length=k*1:=by rw[lW nh,aH,bJ hkl]
 have n:((xs.drop k).flatMap pj).length=(xs.length-k)*1:=by rw[lW nh,aV]
 have L:m≠b:=fun e=>U (e▸p)
 rw[Aa (f:=pj) xs k]at hc;have a:(xs.take k++x::xs.drop k).flatMap pj=(xs.take k).flatMap pj++(pj x++(xs.drop k).flatMap pj):=by rw[bO,aO]
 have d:=Hh (xs.drop k);have c:(pj x).length=1:=rfl;have z:cG (pj x)=true:=rfl;generalize hAe:(xs.take k).flatMap pj=A at j hc a;generalize hBe:(xs.drop k).flatMap pj=B at n hc a d;generalize pj x=X at Q c hv a z;rw[ha];have w1:IntKind.wrap .i64 ((xs.length:Int)+((1:Nat):Int))=((xs.length+1:Nat):Int):=by rw[fx (by omega)];omega
 have w2:IntKind.wrap .i64 ((k:Int)+((1:Nat):Int))=((k+1:Nat):Int):=by rw[fx (by omega)];omega
 have w3:IntKind.wrap .i64 (((xs.length+1:Nat):Int)-(k:Int))=((xs.length+1-k:Nat):Int):=by rw[fx (by omega)];omega
 simp only[w1,w2,w3,aU,u];refine az (fun hgt=>?_) fun hle=>?_
 ·
  have O:s.cap=xs.length:=by omega
  refine Join.plain ⟨by omega,⟨by omega,by omega,by omega,by omega⟩,fun hin=>?_,fun J=>?_⟩
  ·omega
  ·refine⟨A,_,?_,rfl,by omega,Go.growslice_fits J (by omega),fun D w=>?_⟩
   ·rw[sub_zero]
    exact ni hc (by rw[j];omega) (by simp only[cL,eZ];rw[ar,←j,gB (al _),bS])
   ·simp only[aU]at w⊢
    have T:=Upd.hnew No h (A++eh (xs.length+1-k) [.pointer none]++eh (D-(k-0+(xs.length+1-k))) [.pointer none]) bo;have bn:=cp h (A++eh (xs.length+1-k) [.pointer none]++eh (D-(k-0+(xs.length+1-k))) [.pointer none]) bo;have C:(eh (xs.length+1-k) [.pointer none]).length=(xs.length+1-k)*1:=nT _ _;have V:(eh (D-(k-0+(xs.length+1-k))) [.pointer none]).length=(D-(k-0+(xs.length+1-k)))*1:=nT _ _
    have t:k-0+(xs.length+1-k)=xs.length+1:=by omega
    rw[cY];have hsz:h.size≠m:=fun e=>by have:=bD hv;omega
    have H:h.size≠b:=fun e=>by have:=bD hc;omega
    have E:=T.get0 hc;have G:=T.get0 hv;generalize hnew h _ bo=h9 at T bn E G;rw[t]at w V⊢;have Z:fa 1 (xs.length+1-k)=1:=bJ (by omega);have m2:fa (xs.length-k) (xs.length+1-(k+1))=xs.length-k:=bJ (by omega);rw[Z];have xr9:SRow h9 (some ⟨m,0,none⟩) (1*1) X:=ni G (by rw[c]) (by rw[cL,bm];rw[c];omega)
    refine⟨by omega,?_⟩;rw[lF (by omega)];refine mX xr9 z bn (by simp only[ac,j,C];omega) fun h11 F o=>⟨by omega,?_⟩
    simp only[Bd];rw[lF (by omega),lF (by omega),m2];refine⟨by omega,?_⟩;have y:=o.get E (fun e=>H e.symm)
    have br:SRow h11 (some ⟨b,0+k*1,none⟩) ((xs.length-k)*1) B:=ni y n (by
     rw[aR,ar,←j,gR,←n,iq])
    refine mX br d F ?_ fun h16 N I=>?_
    ·simp only[ac,aH,aV,j,C,c];omega
    ·refine Y _ _ ⟨by simp;omega,nh,w,.inr ⟨h.size,eh (D-(xs.length+1)) [.pointer none],rfl,hM _ (al _),?_,by rw[nT];rfl⟩⟩ ((T.wide.trans (M':=(· =h.size)) o fun b p=>.inl (p▸hM _ (al _))).trans (M':=(· =h.size)) I fun b p=>.inl (p▸hM _ (al _)))
     rw[N,a];have:=Nk (A:=A) (X:=X) (B:=B) (Z1:=eh (xs.length+1-k) [.pointer none]) (Z2:=eh (D-(xs.length+1)) [.pointer none]) (r:=(xs.length-k)*1) j c (by rw[C,←iH];congr 1;omega);rw[t,←this];simp only[aR,iH,ua]
 ·have O:xs.length+1≤s.cap:=by omega
  refine⟨by omega,?_⟩;simp only[Bd,eZ];rw[sub_zero,lF (show s.cap≠k+1 by omega),lF (show s.cap≠k by omega)]
  refine⟨by omega,?_⟩;have hrl:1≤g.length:=by rw[hr];exact rN _ (by omega)
  refine Nc hv hc L (by rw[dE,ac];omega) ?_;refine au.2 ⟨by omega,by omega,?_⟩
  have Z:fa 1 (xs.length+1-k)=1:=bJ (by omega);have m2:fa (xs.length+1-k) (xs.length+1-(k+1))=xs.length-k:=by
   rw[show xs.length+1-(k+1)=xs.length-k by omega];exact g9 (by omega)
  rw[m2];have br:SRow h (some ⟨b,0+k*1,none⟩) ((xs.length-k)*1) B:=ni hc n (by
   rw[aR,ar,←j,gR,←n,iq])
  refine mX br d hc (by simp only[ac,j,n];omega) fun h1 W P=>⟨by omega,?_⟩
  rw[Z];have xr1:SRow h1 (some ⟨m,0,none⟩) (1*1) X:=ni (P.get hv L) (by rw[c]) (by rw[cL,bm];rw[c];omega);refine mX xr1 z W (by simp only[ac,aH,aV,j,n];omega) fun h2 hb2 hu2=>?_
  refine Y _ _ ⟨by simp;omega,nh,O,.inr ⟨b,g.drop 1,rfl,p,?_,?_⟩⟩ ((P.mono fun _ e=>.inl (e▸p)).tr (hu2.mono fun _ e=>.inl (e▸p)))
  ·rw[hb2,a]
   have:=RJ (A:=A) (X:=X) (B:=B) (R:=g) (q:=1) (r:=(xs.length-k)*1) j n hrl;rw[←this];simp only[aR,iH,ua]
  ·rw[aV,hr]
   simp only;rw[u];omega
end Go.Proofs
