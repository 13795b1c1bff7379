/- A part of the proof that the named laws of this program answer true, whatever the input. -/
import Derived.Test.YtcpiahjlddmfiaaGreatPart1
open BitVec renaming ofInt→ak
open Int renaming toNat_natCast→aY
open List renaming map_cons→bK,pairwise_cons→aB,mem_cons→aq,mem_map→bG,takeWhile_cons→nD,pairwise_append→bT,mem_cons_of_mem→az,any_eq_true→bP,mem_filter→ci,length_filter_le→dk,mem_cons_self→au,append_eq_nil_iff→iG,mem_singleton→av,getElem_of_mem→bA,length_take→aP,take_append_drop→bc,append_nil→aX,length_set→ou,getElem_mem→bX,mem_of_getElem→nG,pairwise_iff_getElem→bZ,take_succ_cons→is,drop_succ_cons→fW,append_assoc→ax,flatMap_cons→aK,drop_left'→cj,pairwise_singleton→cd,filter_cons→bl
open List.Pairwise renaming nil→db
open Nat renaming le_trans→bI,zero_add→aH,min_eq_left→bH,le_of_eq→di,le_refl→al,lt_irrefl→lw,mod_lt→tC,lt_of_lt_of_le→aC
open Option renaming isSome_iff_exists→gP,some→bD
open UInt8 renaming toNat_inj→rK
namespace Go.Proofs
open Go.Lift
structure Inv(L:fp)(nx:Int):Prop where
 good:Good L
 pos:∀id∈oY L,1≤id∧id<nx
 nx1:1≤nx
 nx2:nx≤2147483648
 few:L.length≤1024
theorem Inv.nil:Inv [] 1:=⟨⟨⟨fun v a=>(by cases a),by simp⟩,db,fun v a=>(by cases a)⟩,fun v a=>(by cases a),by omega,by omega,by simp⟩
theorem II{id:Int}:∀{L:fp},(oY L).Pairwise (· < ·)→id∉oY L→∀v∈L.dropWhile (fun v=>decide (v.1<id)),id<v.1
 | [],_,_,v,a=>by cases a
 |u::L,hp,hn,v,a=>by
  simp only[oY,bK,aB,aq,not_or]at hp hn;rw[List.dropWhile_cons]at a;split at a
  ·exact II hp.2 hn.2 v a
  ·rename_i h
   have h:¬u.1<id:=by simpa using h
   rcases aq.1 a with rfl|a
   ·omega
   ·have:=hp.1 v.1 (bG.2 ⟨v,a,rfl⟩);omega
theorem M7{id:Int}:∀{L:fp},∀v∈L.takeWhile (fun v=>decide (v.1<id)),v.1<id
 | [],v,a=>by cases a
 |u::L,v,a=>by
  rw[nD]at a;split at a
  ·rename_i h
   rcases aq.1 a with rfl|a
   ·simpa using h
   ·exact M7 v a
  ·cases a
theorem Hk{L:fp}(g:Good L){id:Int}{ps:List Int}(i:id∉oY L)(f:∀p∈ps,p∈oY L∧p<id)(j:ps.length≤2)(m:L.length<100000):Good (AF L id ps):=by
 have a:=yj L id ps;refine⟨⟨fun v b=>?_,by rw[a.length_eq];simp;omega⟩,?_,fun v b p c=>?_⟩
 ·rcases aq.1 (a.mem_iff.1 b)with rfl|b
  ·exact j
  ·exact g.two v b
 ·unfold AF oY
  rw[List.map_append,bK,bT];refine⟨(g.up.sublist ((List.takeWhile_sublist _).map _)),aB.2 ⟨fun y d=>?_,g.up.sublist ((List.dropWhile_sublist _).map _)⟩,fun x hx y d=>?_⟩
  ·obtain⟨v,b,rfl⟩:=bG.1 d
   exact II g.up i v b
  ·obtain⟨u,k,rfl⟩:=bG.1 hx
   have e:=M7 u k;rcases aq.1 d with rfl|d
   ·exact e
   ·obtain⟨v,b,rfl⟩:=bG.1 d
    have:=II g.up i v b;omega
 ·rw[insV_ids.mem_iff]
  rcases aq.1 (a.mem_iff.1 b)with rfl|b
  ·exact⟨az _ (f p c).1,(f p c).2⟩
  ·have:=g.par v b p c
   exact⟨az _ this.1,this.2⟩
theorem Fc{L:fp}{ps:List Int}(h:tL L ps=0):(∀p∈ps,p∈oY L)∧L.length<1024:=by
 unfold tL at h;split at h
 ·cases h
 ·rename_i h1
  split at h
  ·cases h
  ·rename_i h2
   refine⟨fun p a=>?_,by omega⟩
   by_cases hm:p∈oY L
   ·exact hm
   ·exact absurd (bP.2 ⟨p,a,by simpa using hm⟩) h1
theorem He{ps:List Int}(h:AA ps=0):ps.length≤2:=by
 unfold AA at h;split at h
 ·cases h
 ·rename_i h1
  have:=not_or.1 h1;omega
theorem Inv.add{L:fp}{nx:Int}(v:Inv L nx)(ps:List Int):Inv (oJ L nx ps).2.1 (oJ L nx ps).2.2:=by
 unfold oJ;split
 ·exact v
 ·rename_i e
  split
  ·exact v
  ·rename_i b
   split
   ·exact v
   ·rename_i h3
    have e:AA ps=0:=by omega
    have b:tL L ps=0:=by omega
    obtain⟨d,g⟩:=Fc b;have f:nx∉oY L:=fun hm=>by have:=(v.pos nx hm).2;omega
    show Inv (AF L nx ps) (nx+1)
    refine⟨Hk v.good f (fun p c=>⟨d p c,(v.pos p (d p c)).2⟩) (He e) (by have:=v.few;omega),fun id a=>?_,by have:=v.nx1;omega,by omega,?_⟩
    ·rcases aq.1 (insV_ids.mem_iff.1 a)with rfl|h
     ·have:=v.nx1;omega
     ·have:=v.pos id h;omega
    ·rw[(yj L nx ps).length_eq];simp;omega
theorem Inv.put{L:fp}{nx:Int}(v:Inv L nx){id:Int}(n:0≤id)(ps:List Int):Inv (Tk L nx id ps).2.1 (Tk L nx id ps).2.2:=by
 unfold Tk;split
 ·exact v
 ·rename_i b
  have b:=not_or.1 b;have i:=b.1;have c:=not_or.1 b.2;have d:=not_or.1 c.2;split
  ·exact v
  ·rename_i h2
   split
   ·exact v
   ·rename_i f
    have g:AA ps=0:=by omega
    have f:tL L ps=0:=by omega
    obtain⟨m,q⟩:=Fc f;have o:=v.nx1;refine⟨Hk v.good h2 (fun p e=>⟨m p e,?_⟩) (He g) (by have:=v.few;omega),fun j k=>?_,by simp only;split<;>omega,?_,?_⟩
    ·by_cases a:p<id
     ·exact a
     ·exact absurd (bP.2 ⟨p,e,by simpa using a⟩) d.2
    ·rcases aq.1 (insV_ids.mem_iff.1 k)with rfl|h
     ·simp only;split<;>omega
     ·have:=v.pos j h;simp only;split<;>omega
    ·have:=v.nx2;simp only;split<;>omega
    ·rw[(yj L id ps).length_eq];simp;omega
theorem Inv.drop{L:fp}{nx:Int}(v:Inv L nx){keep st:List Int}(d:∀y,y∈st↔∃k∈keep,UpG L k y):Inv (L.filter fun v=>decide (v.1∈st)) nx:=by
 have a:∀id,id∈oY (L.filter fun v=>decide (v.1∈st))↔id∈oY L∧id∈st:=fun id=>by
  unfold oY;simp only[bG,ci,decide_eq_true_iff];constructor
  ·rintro⟨u,⟨b,c⟩,rfl⟩;exact⟨⟨u,b,rfl⟩,c⟩
  ·rintro⟨⟨u,b,rfl⟩,c⟩;exact⟨u,⟨b,c⟩,rfl⟩
 refine⟨⟨⟨fun u g=>v.good.two u (ci.1 g).1,bI (dk ..) v.good.len⟩,v.good.up.sublist ((List.filter_sublist).map _),fun u g p i=>?_⟩,fun id f=>v.pos id ((a id).1 f).1,v.nx1,v.nx2,bI (dk ..) v.few⟩
 obtain⟨b,c⟩:=ci.1 g;obtain⟨j,m⟩:=v.good.par u b p i;refine⟨(a p).2 ⟨j,?_⟩,m⟩;obtain⟨k,n,e⟩:=(d _).1 (of_decide_eq_true c);refine(d p).2 ⟨k,n,e.snoc ?_ j⟩;have:bQ L u.1=some u.2:=(mJ v.good.nd).2 b;simp[parV,this,i]
end Go.Proofs
namespace Go.Proofs
inductive Fo where
 |nil:Fo
 |cons (lab:List UInt8) (val:Option ByteArray) (kids rest:Fo):Fo
abbrev Bn:=List UInt8×Option ByteArray×Fo
def Fo.toL:Fo→List Bn
 | .nil=> []
 | .cons lab w kids rest=>(lab,w,kids)::rest.toL
theorem Fo.toL_cons(lab:List UInt8)(w:Option ByteArray)(a b:Fo):(Fo.cons lab w a b).toL=(lab,w,a)::b.toL:=rfl
def Fo.ofL:List Bn→Fo
 | []=>.nil
 |(lab,w,kids)::l=>.cons lab w kids (Fo.ofL l)
theorem Fo.to_of:∀l:List Bn,(Fo.ofL l).toL=l
 | []=>rfl
 |(_,_,_)::l=>by show _::(Fo.ofL l).toL=_;rw[Fo.to_of l]
theorem Fo.of_to:∀F:Fo,Fo.ofL F.toL=F
 | .nil=>rfl
 | .cons lab w kids rest=>by show Fo.cons lab w kids (Fo.ofL rest.toL)=_;rw[Fo.of_to rest]
def tG:Fo→List UInt8→ByteArray→Prop
 | .nil,_,_=>False
 | .cons lab w kids rest,k,v=>(∃r,k=lab++r∧((r= []∧w=some v)∨tG kids r v))∨tG rest k v
def vi(w:Option ByteArray)(F:Fo)(k:List UInt8)(v:ByteArray):Prop:=(k= []∧w=some v)∨tG F k v
def w9(n:Bn)(k:List UInt8)(v:ByteArray):Prop:=∃r,k=n.1++r∧vi n.2.1 n.2.2 r v
theorem hE:∀{F:Fo} {k:List UInt8} {v:ByteArray},tG F k v↔∃n∈F.toL,w9 n k v
 | .nil,_,_=>by simp[tG,Fo.toL]
 | .cons lab w kids rest,k,v=>by
  rw[Fo.toL_cons];unfold tG;rw[hE (F:=rest)];constructor
  ·rintro(h|⟨n,a,h⟩)
   ·exact⟨_,au ..,h⟩
   ·exact⟨n,az _ a,h⟩
  ·rintro⟨n,a,h⟩
   rcases aq.1 a with rfl|a
   ·exact .inl h
   ·exact .inr ⟨n,a,h⟩
def hd(k:List UInt8):Nat:=(k.headD 0).toNat
theorem qc{a b:List UInt8}(h:a≠[]):hd (a++b)=hd a:=by
 cases a with
 |nil=>exact absurd rfl h
 |cons x a=>rfl
theorem SN(a:List UInt8):hd a<256:=UInt8.toNat_lt _
def g8:Fo→Prop
 | .nil=>True
 | .cons lab w kids rest=>lab≠[]∧(w.isSome∨2≤kids.toL.length)∧g8 kids∧(∀n∈rest.toL,hd lab<hd n.1)∧g8 rest
def O2(n:Bn):Prop:=n.1≠[]∧(n.2.1.isSome∨2≤n.2.2.toL.length)∧g8 n.2.2
theorem dM:∀{F:Fo},g8 F↔F.toL.Pairwise (fun m n=>hd m.1<hd n.1)∧∀n∈F.toL,O2 n
 | .nil=>by simp[g8,Fo.toL]
 | .cons lab w kids rest=>by
  rw[Fo.toL_cons,aB];show(lab≠[]∧(w.isSome∨2≤kids.toL.length)∧g8 kids∧(∀n∈rest.toL,hd lab<hd n.1)∧g8 rest)↔_
  rw[dM (F:=rest)];constructor
  ·rintro⟨g,e,f,c,d,b⟩
   refine⟨⟨c,d⟩,fun n a=>?_⟩
   rcases aq.1 a with rfl|a
   ·exact⟨g,e,f⟩
   ·exact b n a
  ·rintro⟨⟨c,d⟩,b⟩
   have:=b _ (au ..);exact⟨this.1,this.2.1,this.2.2,c,d,fun n a=>b n (az _ a)⟩
theorem sG:∀{F:Fo},g8 F→∀n∈F.toL,∃r v,vi n.2.1 n.2.2 r v
 | .nil,_,n,a=>by simp[Fo.toL]at a
 | .cons lab w kids rest,h,n,a=>by
  rcases aq.1 a with rfl|a
  ·rcases h.2.1 with c|b
   ·obtain⟨v,e⟩:=gP.1 c
    exact⟨[],v,.inl ⟨rfl,e⟩⟩
   ·have f:=sG h.2.2.1
    have⟨m,hm⟩:∃m,m∈kids.toL:=by
     cases hl:kids.toL with
     |nil=>rw[hl]at b;simp at b
     |cons m l=>exact⟨m,au ..⟩
    obtain⟨r,v,d⟩:=f m hm;exact⟨m.1++r,v,.inr (hE.2 ⟨m,hm,r,rfl,d⟩)⟩
  ·exact sG h.2.2.2.2 n a
theorem vY{F:Fo}(h:g8 F){k:List UInt8}{v:ByteArray}(hi:tG F k v):k≠[]:=by
 obtain⟨n,a,r,rfl,_⟩:=hE.1 hi;have:=((dM.1 h).2 n a).1;intro e;exact this (iG.1 e).1
theorem vZ{F:Fo}(h:g8 F){k:List UInt8}{v:ByteArray}(hi:tG F k v):∃n∈F.toL,hd n.1=hd k∧w9 n k v:=by
 obtain⟨n,a,r,e,b⟩:=hE.1 hi;exact⟨n,a,by rw[e,qc ((dM.1 h).2 n a).1],r,e,b⟩
theorem yn{F:Fo}(h:g8 F){m n:Bn}(hm:m∈F.toL)(f:n∈F.toL)(e:hd m.1=hd n.1):m=n:=by
 have d:=(dM.1 h).1;revert hm f;generalize F.toL=l at*;clear h;induction l with
 |nil=>intro hm;simp at hm
 |cons a l ih=>
  have d:=aB.1 d;intro hm f;rcases aq.1 hm with i|c
  ·rcases aq.1 f with g|b
   ·rw[i,g]
   ·have:=d.1 n b;rw[←i]at this;omega
  ·rcases aq.1 f with g|b
   ·have:=d.1 m c;rw[←g]at this;omega
   ·exact ih d.2 c b
def Br(P:List UInt8→ByteArray→Prop):Prop:=(∃v,P [] v)∨∃j k u v,P j u∧P k v∧j≠[]∧k≠[]∧hd j≠hd k
theorem QK{w:Option ByteArray}{F:Fo}(h:g8 F):(w.isSome∨2≤F.toL.length)↔Br (vi w F):=by
 constructor
 ·rintro(x|B)
  ·obtain⟨v,c⟩:=gP.1 x
   exact .inl ⟨v,.inl ⟨rfl,c⟩⟩
  ·right
   have d:=sG h;have hc:=dM.1 h;match hL:F.toL,B with
   |a::b::l,_=>
    have f:a∈F.toL:=by rw[hL];simp
    have o:b∈F.toL:=by rw[hL];simp
    obtain⟨r,v,C⟩:=d a f;obtain⟨s,u,d⟩:=d b o;have t:=(hc.2 a f).1;have p:=(hc.2 b o).1;have:=hc.1;rw[hL]at this;have D:=(aB.1 this).1 b (au ..);refine⟨a.1++r,b.1++s,v,u,.inr (hE.2 ⟨a,f,r,rfl,C⟩),.inr (hE.2 ⟨b,o,s,rfl,d⟩),?_,?_,?_⟩
    ·intro e;exact t (iG.1 e).1
    ·intro e;exact p (iG.1 e).1
    ·rw[qc t,qc p];omega
 ·rintro(⟨v,c⟩|⟨j,k,u,v,g,i,z,nk,A⟩)
  ·rcases c with⟨_,c⟩|c
   ·left;rw[c];rfl
   ·exact absurd rfl (vY h c)
  ·right
   rcases g with⟨e,_⟩|g
   ·exact absurd e z
   rcases i with⟨e,_⟩|i
   ·exact absurd e nk
   obtain⟨m,hm,em,_⟩:=vZ h g;obtain⟨n,q,y,_⟩:=vZ h i;match hL:F.toL with
   | []=>rw[hL]at hm;simp at hm
   | [a]=>
    rw[hL]at hm q;rw[av.1 hm]at em;rw[av.1 q]at y;omega
   |a::b::l=>simp
end Go.Proofs
namespace Go.Proofs
def uQ(P a:List UInt8→ByteArray→Prop)(k:List UInt8)(v:ByteArray):Prop:=∀k' v',a k' v'↔(k'=k∧v'=v)∨(k'≠k∧P k' v')
theorem GZ{w:Option ByteArray}{F:Fo}(h:g8 F)(v:ByteArray):uQ (vi w F) (vi (some v) F) [] v:=by
 intro k' a;unfold vi;constructor
 ·rintro(⟨e,f⟩|hi)
  ·exact .inl ⟨e,(bD.inj f).symm⟩
  ·exact .inr ⟨vY h hi,.inr hi⟩
 ·rintro(⟨e,f⟩|⟨e,⟨f,_⟩|hi⟩)
  ·exact .inl ⟨e,by rw[f]⟩
  ·exact absurd f e
  ·exact .inr hi
theorem B6{w:Option ByteArray}{F F':Fo}{k:List UInt8}{v:ByteArray}(c:k≠[])(h:uQ (tG F) (tG F') k v):uQ (vi w F) (vi w F') k v:=by
 intro k' a;unfold vi;rw[h k' a];constructor
 ·rintro(⟨e,f⟩|hi|hi)
  ·exact .inr ⟨fun b=>c (b.symm.trans e),.inl ⟨e,f⟩⟩
  ·exact .inl hi
  ·exact .inr ⟨hi.1,.inr hi.2⟩
 ·rintro(hi|⟨e,hi|hi⟩)
  ·exact .inr (.inl hi)
  ·exact .inl hi
  ·exact .inr (.inr ⟨e,hi⟩)
theorem Oe{F:Fo}{k:List UInt8}{v:ByteArray}{i:Nat}(h:g8 F)(y:k≠[])(hi:∀j (d:j<F.toL.length),j<i→hd F.toL[j].1<hd k)(g:∀j (d:j<F.toL.length),i≤j→hd k<hd F.toL[j].1):g8 (.ofL (F.toL.take i++(k,some v,.nil)::F.toL.drop i))∧uQ (tG F) (tG (.ofL (F.toL.take i++(k,some v,.nil)::F.toL.drop i))) k v:=by
 have hc:=dM.1 h;have z:∀n∈F.toL.take i,hd n.1<hd k:=fun n c=>by
  obtain⟨j,d,e⟩:=bA c;rw[aP]at d;rw[←e,List.getElem_take];exact hi j (by omega) (by omega)
 have x:∀n∈F.toL.drop i,hd k<hd n.1:=fun n c=>by
  obtain⟨j,d,e⟩:=bA c;rw[List.length_drop]at d;rw[←e,List.getElem_drop];exact g _ (by omega) (by omega)
 have mem:∀n,n∈F.toL.take i++(k,some v,.nil)::F.toL.drop i↔n=(k,some v,Fo.nil)∨n∈F.toL:=fun n=>by
  conv=>rhs;rw[←bc i F.toL]
  simp only[List.mem_append,aq];exact⟨fun h=>h.elim (fun h=>.inr (.inl h)) fun h=>h.elim .inl fun h=>.inr (.inr h),fun h=>h.elim (fun h=>.inr (.inl h)) fun h=>h.elim .inl fun h=>.inr (.inr h)⟩
 refine⟨dM.2 ⟨?_,?_⟩,fun k' u=>?_⟩
 ·rw[Fo.to_of]
  have m:=hc.1;rw[←bc i F.toL,bT]at m;refine bT.2 ⟨m.1,aB.2 ⟨x,m.2.1⟩,fun a s b o=>?_⟩
  rcases aq.1 o with rfl|o
  ·exact z a s
  ·exact m.2.2 a s b o
 ·rw[Fo.to_of]
  intro n c;rcases(mem n).1 c with rfl|c
  ·exact⟨y,.inl rfl,trivial⟩
  ·exact hc.2 n c
 ·rw[hE,hE,Fo.to_of]
  constructor
  ·rintro⟨n,c,r,e,t⟩
   rcases(mem n).1 c with rfl|c
   ·rcases t with⟨rfl,f⟩|f
    ·exact .inl ⟨by rw[e];exact aX _,(bD.inj f).symm⟩
    ·exact f.elim
   ·right
    refine⟨fun w=>?_,n,c,r,e,t⟩
    have A:hd k=hd n.1:=by rw[←w,e,qc (hc.2 n c).1]
    obtain⟨j,d,q⟩:=bA c;rcases Nat.lt_or_ge j i with p|p
    ·have:=hi j d p;rw[q]at this;omega
    ·have:=g j d p;rw[q]at this;omega
  ·rintro(⟨rfl,rfl⟩|⟨_,n,c,h⟩)
   ·exact⟨(k',some u,.nil),(mem _).2 (.inl rfl),[],(aX _).symm,.inl ⟨rfl,rfl⟩⟩
   ·exact⟨n,(mem _).2 (.inr c),h⟩
theorem mc{α:Type}{l:List α}{i:Nat}(hi:i<l.length){a x:α}(nd:∀j (c:j<l.length),j≠i→l[j]≠l[i]):x∈l.set i a↔x=a∨(x∈l∧x≠l[i]):=by
 constructor
 ·intro h
  obtain⟨j,c,e⟩:=bA h;rw[ou]at c;rw[List.getElem_set]at e;split at e
  ·exact .inl e.symm
  ·rename_i b
   exact .inr ⟨by rw[←e];exact bX c,by rw[←e];exact nd j c fun e=>b e.symm⟩
 ·rintro(rfl|⟨h,b⟩)
  ·exact nG (i:=i) (h:=by simpa using hi) (by simp)
  ·obtain⟨j,c,e⟩:=bA h
   have:i≠j:=by rintro rfl;exact b e.symm
   exact nG (i:=j) (h:=by simpa using c) (by rw[List.getElem_set_ne this];exact e)
theorem NI{F:Fo}{i:Nat}{m:Bn}(h:g8 F)(hi:i<F.toL.length)(hm:O2 m)(e:hd m.1=hd F.toL[i].1):g8 (.ofL (F.toL.set i m)):=by
 have hc:=dM.1 h;rw[dM,Fo.to_of];refine⟨?_,fun n g=>?_⟩
 ·rw[bZ]at hc⊢
  intro a b d f c;rw[ou]at d f;rw[List.getElem_set,List.getElem_set];split
  ·rename_i ea;subst ea
   rw[if_neg (by omega),e];exact hc.1 _ _ d f c
  ·split
   ·rename_i eb;subst eb
    rw[e];exact hc.1 _ _ d f c
   ·exact hc.1 _ _ d f c
 ·rcases List.mem_or_eq_of_mem_set g with g|rfl
  ·exact hc.2 n g
  ·exact hm
theorem vT{F:Fo}(h:g8 F){i:Nat}(hi:i<F.toL.length)(j:Nat)(c:j<F.toL.length)(b:j≠i):F.toL[j]≠F.toL[i]:=by
 have hc:=(dM.1 h).1;rw[bZ]at hc;intro e;rcases Nat.lt_or_gt_of_ne b with a|a
 ·have:=hc j i c hi a;rw[e]at this;omega
 ·have:=hc i j hi c a;rw[e]at this;omega
theorem JT{F:Fo}{i:Nat}{m:Bn}{k:List UInt8}{v:ByteArray}(h:g8 F)(hi:i<F.toL.length)(ek:hd F.toL[i].1=hd k)(g:uQ (w9 F.toL[i]) (w9 m) k v):uQ (tG F) (tG (.ofL (F.toL.set i m))) k v:=by
 intro k' d;have hc:=dM.1 h;rw[hE,hE,Fo.to_of];constructor
 ·rintro⟨n,a,c⟩
  rcases(mc hi (vT h hi)).1 a with rfl|⟨a,f⟩
  ·rcases(g k' d).1 c with b|⟨b,j⟩
   ·exact .inl b
   ·exact .inr ⟨b,_,bX hi,j⟩
  ·refine .inr ⟨fun e=>f ?_,n,a,c⟩
   obtain⟨r,o,_⟩:=c;refine yn h a (bX hi) ?_;rw[ek,←e,o,qc (hc.2 n a).1]
 ·rintro(b|⟨b,n,a,c⟩)
  ·exact⟨m,(mc hi (vT h hi)).2 (.inl rfl),(g k' d).2 (.inl b)⟩
  ·by_cases e:n=F.toL[i]
   ·exact⟨m,(mc hi (vT h hi)).2 (.inl rfl),(g k' d).2 (.inr ⟨b,by rw[←e];exact c⟩)⟩
   ·exact⟨n,(mc hi (vT h hi)).2 (.inr ⟨a,e⟩),c⟩
theorem Od{lab r:List UInt8}{w f:Option ByteArray}{F F':Fo}{v:ByteArray}(h:uQ (vi w F) (vi f F') r v):uQ (w9 (lab,w,F)) (w9 (lab,f,F')) (lab++r) v:=by
 intro k' a;constructor
 ·rintro⟨s,e,c⟩
  rcases(h s a).1 c with⟨rfl,rfl⟩|⟨d,g⟩
  ·exact .inl ⟨e,rfl⟩
  ·exact .inr ⟨fun b=>d (List.append_cancel_left (e.symm.trans b)),s,e,g⟩
 ·rintro(⟨rfl,rfl⟩|⟨d,s,e,c⟩)
  ·exact⟨r,rfl,(h r a).2 (.inl ⟨rfl,rfl⟩)⟩
  ·exact⟨s,e,(h s a).2 (.inr ⟨fun b=>d (by rw[e,b]),c⟩)⟩
def cm:List UInt8→List UInt8→Nat
 |a::x,b::y=>if a=b then cm x y+1 else 0
 |_,_=>0
theorem SQ:∀(x y:List UInt8),cm x y≤x.length∧cm x y≤y.length
 | [],_=>by simp[cm]
 |_::_,[]=>by simp[cm]
 |a::x,b::y=>by unfold cm;have:=SQ x y;split<;>simp<;>omega
theorem NG:∀(x y:List UInt8),x.take (cm x y)=y.take (cm x y)
 | [],_=>by simp[cm]
 |_::_,[]=>by simp[cm]
 |a::x,b::y=>by
  unfold cm;split
  ·rename_i e;rw[is,is,NG x y,e]
  ·simp
theorem NH:∀(x y:List UInt8),cm x y<x.length→cm x y<y.length→hd (x.drop (cm x y))≠hd (y.drop (cm x y))
 | [],_=>by simp[cm]
 |_::_,[]=>by simp[cm]
 |a::x,b::y=>by
  unfold cm;split
  ·rename_i e
   intro d c;rw[List.length_cons]at d c;rw[fW,fW];exact NH x y (by omega) (by omega)
  ·rename_i e
   intro _ _ h;exact e (rK.1 h)
theorem TI{x y:List UInt8}(hx:x≠[])(c:y≠[])(h:hd x=hd y):0<cm x y:=by
 match x,y,hx,c with
 |a::x,b::y,_,_=>
  unfold cm;rw[if_pos (show a=b from rK.1 h)]
  omega
theorem Hm{lab:List UInt8}{w:Option ByteArray}{F:Fo}(c:Nat):∀k v,w9 (lab.take c,none,.cons (lab.drop c) w F .nil) k v↔w9 (lab,w,F) k v:=by
 intro k v;constructor
 ·rintro⟨r,e,⟨_,h⟩|(⟨s,rfl,h⟩|h)⟩
  ·cases h
  ·exact⟨s,by rw[e];simp only;rw[←ax,bc],h⟩
  ·exact h.elim
 ·rintro⟨s,e,h⟩
  exact⟨lab.drop c++s,by rw[e];simp only;rw[←ax,bc],.inr (.inl ⟨s,rfl,h⟩)⟩
theorem QJ{lab r:List UInt8}{w f:Option ByteArray}{F F':Fo}{v:ByteArray}(c:lab≠[])(k:w.isSome∨2≤F.toL.length)(i:g8 F)(a:r≠[]→hd r≠hd lab)(h:uQ (vi none (.cons lab w F .nil)) (vi f F') r v):Br (vi f F'):=by
 by_cases e:r= []
 ·subst e
  exact .inl ⟨v,(h [] v).2 (.inl ⟨rfl,rfl⟩)⟩
 ·have hc:g8 (.cons lab w F .nil):=⟨c,k,i,fun n j=>by simp[Fo.toL]at j,trivial⟩
  obtain⟨s,u,d⟩:=sG hc _ (au ..);simp only at d;have g:hd (lab++s)=hd lab:=qc c;refine .inr ⟨r,lab++s,v,u,(h r v).2 (.inl ⟨rfl,rfl⟩),(h _ u).2 (.inr ⟨fun b=>a e (by rw[←b,g]),.inr (.inl ⟨s,rfl,d⟩)⟩),e,fun b=>c (iG.1 b).1,by rw[g];exact a e⟩
theorem Sv{P d:List UInt8→ByteArray→Prop}{k:List UInt8}{v:ByteArray}(g:Br P)(h:uQ P d k v):Br d:=by
 have keep:∀j u,P j u→∃c,d j c:=fun j u f=>by
  by_cases e:j=k
  ·exact⟨v,(h j v).2 (.inl ⟨e,rfl⟩)⟩
  ·exact⟨u,(h j u).2 (.inr ⟨e,f⟩)⟩
 rcases g with⟨u,n⟩|⟨j,k',u,c,f,m,r⟩
 ·obtain⟨c,h'⟩:=keep [] u n
  exact .inl ⟨c,h'⟩
 ·obtain⟨a,i⟩:=keep j u f
  obtain⟨b,g⟩:=keep k' c m;exact .inr ⟨j,k',a,b,i,g,r⟩
end Go.Proofs
namespace Go.Proofs
open Go.Lift
theorem uV{β:Type}{g:Nat→Option β}{i:Nat}(h:g i=none):upd g i none=g:=by
 funext j;unfold upd;split
 ·rename_i e;rw[e,h]
 ·rfl
theorem ee{h:ac}{b:Nat}{c:Array Value}{t:TypeId}{i:Nat}(a:h[b]? =some (.cells c t (0,0))):aI h ⟨b,0+i,none⟩=c[i]?:=by rw[aH];exact aL a
theorem Q9{h:ac}{b:Nat}{c:Array Value}{t:TypeId}{i:Nat}(a:h[b]? =some (.cells c t (0,0))) (hi:i<c.size):Wr h ⟨b,0+i,none⟩:=by rw[aH];exact gn a hi
theorem Gg{h:ac}{b:Nat}{c c':Array Value}{t:TypeId}{i:Nat}{v:Value}{k:ac→Prop}(g:h[b]? =some (.cells c t (0,0))) (e:c.setIfInBounds i v=c')
 (d:∀h',h'[b]? =some (.cells c' t (0,0))→Upd (· =b) h h'→k h'):At (hset h ⟨b,i,none⟩ v) k:=xP g fun h' a f=>d h' (e▸a) f
theorem IH{M:Nat→Prop}{h:ac}{b d n:Nat}{sp sk:SliceV}{s:Slots}{ow:Option Addr}(o:OwnN M h b d n sp sk s ow){i:Nat}(hi:i<32){K:Unit→ac→Prop}
  (Y:∀h' C n' sp' sk',OwnN M h' b C n' sp' sk' ⟨upd s.p i none,upd s.k i none⟩ ow→Upd M h h'→K () h'):HC PG jx [.pointer (some ⟨b,0,none⟩),.int .i64 i] [] K h:=by
 obtain⟨A,B,V,T,a,m⟩:=o.ex;have bits:=o.bits;refine Bb _ i ?_;unfold uj dI fj bR m9 Js;have W:∀k:Nat,k≤100→IntKind.wrap .i64 ((k:Int)+1)=((k+1:Nat):Int):=fun k Y=>by rw[d8 (by omega)];omega
 have hc1:=zI i d;have hc2:=zI i n;have H:∀x,A x→M x∨h.size≤x:=fun x hx=>.inl (a x hx).1
 refine Join.intro (fun _ h'=>∃sp',h'[b]? =some (.cells (eK d n sp' sk false ow) be (0,0))∧OwnS eJ 2 ag A h' sp' (fm (upd s.p i none) 32)∧OwnS rA 1 bC B h' sk (fm s.k 32)∧Upd M h h') (fun R v=>?_) ?_
 ·refine⟨_,rfl,_,ee (i:=0) o.blk,Cd bits.d32 hi ?_⟩
  rw[bits.dp i hi];cases hp:s.p i with
  |none=>exact ai.2 (v _ _ ⟨sp,o.blk,by rw[uV hp];exact V,T,Upd.refl _ _⟩)
  |some y=>
   refine ar.2 ⟨_,rfl,_,ee (i:=0) o.blk,qx bits.d32 hi ⟨_,rfl,sp,ee (i:=2) o.blk,?_⟩⟩;rw[W _ (by omega)];refine Mv V (Hr hi bits.dp hp) (by have:=AM (g:=s.p);omega) fun D X t f=>?_
   rw[←Qh hi bits.dp hp]at t;have b2:=f.get o.blk fun P=>(a b P).2.2.1 rfl
   refine⟨_,rfl,Q9 (i:=2) b2 (show 2<6 by decide),Gg (i:=2) (c':=eK d n D sk false ow) b2 rfl fun U b3 j=>?_⟩
   refine v _ _ ⟨D,b3,t.upd j fun x hx e=>(a x hx).2.2.1 e,(T.upd f fun x hx N=>(a x N).2.1 hx).upd j fun x hx e=>(m x hx).2.1 e,(f.mono H).tr (j.mono fun x e=>.inl (e▸o.mb))⟩
 rintro _ h1 ⟨q,b1,F,E,w⟩;refine Join.intro (fun _ h'=>∃sk',h'[b]? =some (.cells (eK d n q sk' false ow) be (0,0))∧OwnS eJ 2 ag A h' q (fm (upd s.p i none) 32)∧OwnS rA 1 bC B h' sk' (fm (upd s.k i none) 32)∧Upd M h1 h') (fun R v=>?_) ?_
 ·refine⟨_,rfl,_,ee (i:=1) b1,Cd bits.n32 hi ?_⟩
  rw[bits.nk i hi];cases hp:s.k i with
  |none=>exact ai.2 (v _ _ ⟨sk,b1,F,by rw[uV hp];exact E,Upd.refl _ _⟩)
  |some y=>
   refine ar.2 ⟨_,rfl,_,ee (i:=1) b1,qx bits.n32 hi ⟨_,rfl,sk,ee (i:=3) b1,?_⟩⟩;rw[W _ (by omega)];refine Mw E (Hr hi bits.nk hp) (by have:=AM (g:=s.k);omega) fun D X t f=>?_
   rw[←Qh hi bits.nk hp]at t;have b2:=f.get b1 fun P=>(m b P).2.1 rfl
   refine⟨_,rfl,Q9 (i:=3) b2 (show 3<6 by decide),Gg (i:=3) (c':=eK d n q D false ow) b2 rfl fun U b3 j=>?_⟩
   refine v _ _ ⟨D,b3,(F.upd f fun x hx N=>(a x hx).2.1 N).upd j fun x hx e=>(a x hx).2.2.1 e,t.upd j fun x hx e=>(m x hx).2.1 e,(f.mono fun x hx=>.inl (m x hx).1).tr (j.mono fun x e=>.inl (e▸o.mb))⟩
 rintro _ X ⟨u,b2,O,J,f⟩;refine⟨_,rfl,_,ee (i:=0) b2,_,rfl,_,ee (i:=1) b2,?_⟩;refine En bits.d32 hi fun C I Q=>⟨ee (i:=1) b2,?_⟩
 refine En bits.n32 hi fun n' G S=>?_
 refine⟨_,rfl,Q9 (i:=0) b2 (show 0<6 by decide),Gg (i:=0) (c':=eK C n q u false ow) b2 rfl fun U b3 j=>?_⟩
 refine⟨_,rfl,Q9 (i:=1) b3 (show 1<6 by decide),Gg (i:=1) (c':=eK C n' q u false ow) b3 rfl fun h4 Z L=>?_⟩
 have p:=j.tr L;have z:=(w.tr (f.tr (p.mono (M':=M) fun x e=>.inl (e▸o.mb)))).size
 refine Y h4 C n' q u ⟨Z,⟨I,G,fun c hc=>?_,fun c hc=>?_⟩,⟨A,B,O.upd p fun x hx e=>(a x hx).2.2.1 e,J.upd p fun x hx e=>(m x hx).2.1 e,fun x hx=>⟨(a x hx).1,(a x hx).2.1,(a x hx).2.2.1,by have:=(a x hx).2.2.2;omega⟩,fun x hx=>⟨(m x hx).1,(m x hx).2.1,by have:=(m x hx).2.2;omega⟩⟩,o.mb⟩ (w.tr (f.tr (p.mono fun x e=>.inl (e▸o.mb))))
 ·rw[Q,bits.dp c hc];simp only[upd];split<;>simp[*]
 ·rw[S,bits.nk c hc];simp only[upd];split<;>simp[*]
end Go.Proofs
namespace Go.Proofs
open Go.Lift
theorem OwnS.setAt{α:Type}{f:α→List Value}{c:Nat}{t:TypeId}{M:Nat→Prop}{h:ac}{s:SliceV}{xs:List α}(m:OwnS f c t M h s xs){k:Nat}(p:k<xs.length)(x:α):
  ∃a,s.a=some a∧M a.block∧sw h (some (adr a (k*c))) 0 (f x)∧OwnS f c t M (hH h (adr a (k*c)) 0 (f x)) s (xs.take k++x::xs.drop (k+1))∧Upd (· =a.block) h (hH h (adr a (k*c)) 0 (f x)):=by
 have i:∀x,(f x).length=c∧0<c:=m.ne;have u:=m.len;have g:=m.cap;rcases m.blk with E|⟨b,e,q,v,hc,y⟩
 ·omega
 have o:((xs.take k).flatMap f).length=k*c:=by rw[jC i,aP,bH (by omega)]
 have C:xs.flatMap f=(xs.take k).flatMap f++(f xs[k]++(xs.drop (k+1)).flatMap f):=by
  rw[←aK,←List.drop_eq_getElem_cons p];exact xM xs k
 rw[C]at hc;have z:=(i xs[k]).1;have F:=(i x).1;have d:(xs.take k++x::xs.drop (k+1)).flatMap f=(xs.take k).flatMap f++(f x++(xs.drop (k+1)).flatMap f):=by rw[List.flatMap_append,aK]
 generalize (xs.take k).flatMap f=A at o hc d;generalize (xs.drop (k+1)).flatMap f=B at hc d;generalize f xs[k]=X at z hc;have w:k*c+0+(f x).length≤(A++(X++B)++e).length:=by simp only[List.length_append];omega
 have n:adr ⟨b,0,none⟩ (k*c)=⟨b,k*c,none⟩:=by rw[bW,aH]
 refine⟨⟨b,0,none⟩,q,v,?_,?_,?_⟩
 ·rw[n]
  refine .inr ⟨_,rfl,fun j D=>?_⟩
  rw[bW];exact gn hc (by rw[List.size_toArray];omega)
 ·rw[n,jo (f x) h 0 (k*c) _ hc w]
  refine⟨by simp;omega,i,g,.inr ⟨b,e,q,v,?_,?_⟩⟩
  ·rw[fF hc,d]
   congr 3
   rw[Nat.add_zero,ax A,List.take_left' o,←List.drop_drop,cj o,ax X,cj (by omega)];simp only[ax]
  ·exact y
 ·rw[n,jo (f x) h 0 (k*c) _ hc w]
  exact Upd.set h _ rfl
theorem OwnN.node{M W:Nat→Prop}{h:ac}{b d n:Nat}{sp sk:SliceV}{s:Slots}{ow:Option Addr}(o:OwnN M h b d n sp sk s ow)(a:∀x,M x→¬W x):NodeAt W h b s:=by
 obtain⟨A,B,e,c,g,f⟩:=o.ex;exact⟨⟨d,n,sp,sk,ow,o.blk,o.bits,e.sl fun x hx _=>a _ (g x hx).1,c.sl fun x hx _=>a _ (f x hx).1,e.cap,c.cap⟩,a _ o.mb⟩
theorem E8{W:Nat→Prop}{h:ac}{b:Nat}{s:Slots}(nd:NodeAt W h b s){i:Nat}(hi:i<32){K:Bool→ac→Prop}(a:K true h):HC PG jy [.pointer (some ⟨b,0,none⟩),.int .i64 i] [.c .bool] K h:=by
 obtain⟨d,n,sp,sk,ow,c,_⟩:=nd.ex;refine Bc _ i ?_;unfold uk bh;refine ar.2 ⟨_,rfl,_,ee (i:=4) c,ar.2 ?_⟩;refine aD (fun _=>?_) fun h=>absurd (Int.natCast_nonneg i) h
 rw[decide_eq_true (by omega)];exact a
theorem M4{β:Type}{g:Nat→Option β}{i:Nat}{x y:Option β}:upd (upd g i x) i y=upd g i y:=by
 funext j;unfold upd;split<;>rfl
theorem gR{β:Type}{g:Nat→Option β}{i:Nat}{x:Option β}:upd g i x i=x:=by simp[upd]
theorem sA{W:Nat→Prop}{h:ac}{b:Nat}{s:Slots}(nd:NodeAt W h b s)(hW:∀x,W x→x<h.size){i:Nat}(hi:i<32)(hx:∀y,s.p i=some y→s.k i=none)(p:Pr){K:Option Addr→ac→Prop}
  (hk:∀h' b',NodeAt W h' b' ⟨upd s.p i (some p),upd s.k i none⟩→Upd No h h'→K (some ⟨b',0,none⟩) h'):
  HC PG eS [.pointer (some ⟨b,0,none⟩),.pointer none,.int .i64 i,.agg #[.string p.1,.string p.2]] [.c .ptr] K h:=by
 refine yz _ none i p ?_;unfold rW cp w7 ay m8 dI vR fj bR kq m9 gQ;have k1:=Upd.hnew No h [.string p.1,.string p.2] ag;have b1:=bE h [.string p.1,.string p.2] ag;refine bw ?_;simp only[cr h];generalize hnew h [.string p.1,.string p.2] ag=h1 at k1 b1;have z1:=bo b1;have P:=nd.upd k1 fun _ h=>h.elim
 refine E8 P hi (ai.2 ?_);refine LW P fun h2 d n sp sk o L=>?_
 have bits:=o.bits;obtain⟨A,B,hA,hB,q,J⟩:=o.ex;have F:=k1.tr L;have u:=L.get0 b1;have V:∀x,h1.size≤x→¬W x:=fun x hx O=>by have:=hW x O;omega
 refine⟨_,rfl,_,ee (i:=0) o.blk,Cd bits.d32 hi ?_⟩;rw[bits.dp i hi];cases hp:s.p i with
 |some y=>
  refine ar.2 ⟨_,rfl,sp,ee (i:=2) o.blk,_,rfl,_,ee (i:=0) o.blk,p.1,by rw[bW,aL u];rfl,p.2,by rw[bW,aL u];rfl,?_⟩
  refine qx bits.d32 hi ⟨⟨by rw[bW,aL u];rfl,by rw[bW,aL u];rfl⟩,ee (i:=2) o.blk,?_⟩
  have hlt:=Hr hi bits.dp hp;obtain⟨a,ha,H,O,ho3,m⟩:=OwnS.setAt hA hlt p;have hlen:=hA.len;refine⟨by omega,a,ha,?_⟩;rw[aY];refine⟨O,bw ?_⟩;rw[←Qf hi bits.dp hp]at ho3;have ob:=m.get o.blk fun e=>(q _ H).2.2.1 e.symm
  have z3:=m.size;have E:OwnN (fun x=>h1.size≤x) _ h1.size d n sp sk ⟨upd s.p i (some p),upd s.k i none⟩ none:=⟨ob,⟨bits.d32,bits.n32,fun c hc=>by
    rw[bits.dp c hc];simp only[upd];split
    ·rename_i e;rw[e,hp];rfl
    ·rfl,fun c hc=>by rw[bits.nk c hc,uV (hx y hp)]⟩,
   ⟨A,B,ho3,by rw[uV (hx y hp)];exact hB.upd m fun x hx e=>(q _ H).2.1 (e▸hx),fun x hx=>⟨(q x hx).1,(q x hx).2.1,(q x hx).2.2.1,by have:=(q x hx).2.2.2;omega⟩,fun x hx=>⟨(J x hx).1,(J x hx).2.1,by have:=(J x hx).2.2;omega⟩⟩,o.mb⟩
  refine hk _ _ (E.node V) (F.trans m fun x hx=>.inr ?_)
  have:=(q _ H).1;have hx:x=a.block:=hx;omega
 |none=>
  refine ai.2 ⟨_,rfl,IH o hi fun z d3 n3 v G E m=>?_⟩
  have f:=E.bits;obtain⟨A3,B3,hA3,hB3,j,k⟩:=E.ex;have z2:=L.size;have z3:=m.size;have C:=m.get u (show ¬h1.size≤h.size by omega)
  have X:Upd No h z:=F.trans m fun x hx=>.inr (bI (Nat.le_of_lt z1) hx)
  refine⟨_,rfl,v,ee (i:=2) E.blk,_,rfl,_,ee (i:=0) E.blk,p.1,by rw[bW,aL C];rfl,p.2,by rw[bW,aL C];rfl,?_⟩
  have T:=Upd.hnew No z [.string p.1,.string p.2] ag;have b4:=bE z [.string p.1,.string p.2] ag;have z4:=gt z [.string p.1,.string p.2] ag;have N:=E.upd T fun _ h=>h.elim
  have U:HC PG cJ [.slice v.a v.len v.cap,.int .i64 (vI i d3),.slice (some (aO z)) 1 1] [.c .slice] (fun(I:SliceV) S=>
       ∃a34:Addr,some (⟨h1.size,0,none⟩:Addr)=some a34∧
       (Wr S (adr (adr a34 0) 2)∧
        At (hset S (adr (adr a34 0) 2) (.slice I.a I.len I.cap)) (fun Q=>
         ∃a36:Addr,some (⟨h1.size,0,none⟩:Addr)=some a36∧
         ∃v37:Int,aI Q (adr (adr a36 0) 0)=some (.int .u32 v37)∧
         HC PG eT [.int .u32 v37,.int .i64 i] [.c (.int .u32)] (fun(e38:Int) Z=>
          ∃a40:Addr,some (⟨h1.size,0,none⟩:Addr)=some a40∧
          (Wr Z (adr (adr a40 0) 0)∧
           At (hset Z (adr (adr a40 0) 0) (.int .u32 e38)) (fun h41=>
            K (some ⟨h1.size,0,none⟩) h41))) Q))) (hnew z [.string p.1,.string p.2] ag):=by
   generalize hnew z [.string p.1,.string p.2] ag=h4 at T b4 z4 N;rw[cr z];have hA4:=(hA3.upd T fun _ _ h=>h).more (M':=fun x=>A3 x∨h4.size≤x) fun x hx=>.inl hx
   have hpn:(⟨upd s.p i none,upd s.k i none⟩:Slots).p i=none:=gR;refine Mb hA4 (SP hi f.dp) (by have:=AM (g:=(⟨upd s.p i none,upd s.k i none⟩:Slots).p);omega) (x:=p) b4 (fun e=>e.elim (fun e=>by have:=(j _ e).2.2.2;omega) fun e=>by omega) (fun x hx=>.inr hx) fun s5 h5 Y D=>?_
   rw[←Qg hi f.dp hpn p]at Y;have hbl:h1.size<z.size:=bo E.blk;have b5:=D.get N.blk fun e=>e.elim (fun e=>(j _ e).2.2.1 rfl) fun e=>by omega
   refine⟨_,rfl,Q9 (i:=2) b5 (show 2<6 by decide),Gg (i:=2) (c':=eK d3 n3 s5 G false none) b5 rfl fun h6 b6 hu6=>?_⟩
   refine⟨_,rfl,_,ee (i:=0) b6,M2 f.d32 hi fun w O hwt=>?_⟩
   refine⟨_,rfl,Q9 (i:=0) b6 (show 0<6 by decide),Gg (i:=0) (c':=eK w n3 s5 G false none) b6 rfl fun h7 b7 hu7=>?_⟩
   have t:=hu6.tr hu7;have z5:=D.size;have z7:=t.size;have R:=Y.within;have e1:(⟨upd (⟨upd s.p i none,upd s.k i none⟩:Slots).p i (some p),upd s.k i none⟩:Slots)=⟨upd s.p i (some p),upd s.k i none⟩:=by rw[M4]
   have o7:OwnN (fun x=>h1.size≤x) h7 h1.size w n3 s5 G ⟨upd s.p i (some p),upd s.k i none⟩ none:=by
    rw[←e1];refine⟨b7,⟨O,f.n32,fun c hc=>?_,f.nk⟩,⟨fun x=>(A3 x∨h4.size≤x)∧x<h5.size,B3,R.upd t fun x hx e=>?_,((hB3.upd T fun _ _ h=>h).upd D fun x hx e=>?_).upd t fun x hx e=>(k x hx).2.1 e,fun x hx=>⟨?_,?_,?_,by omega⟩,fun x hx=>⟨(k x hx).1,(k x hx).2.1,by have:=(k x hx).2.2;omega⟩⟩,o.mb⟩
    ·rw[hwt,f.dp c hc];simp only[upd];split<;>simp[*]
    ·have e:x=h1.size:=e
     rcases hx.1 with h|h
     ·exact(j x h).2.2.1 e
     ·omega
    ·rcases e with e|e
     ·exact(j x e).2.1 hx
     ·have:=(k x hx).2.2;omega
    ·rcases hx.1 with h|h
     ·exact(j x h).1
     ·omega
    ·rcases hx.1 with h|h
     ·exact(j x h).2.1
     ·exact fun hb=>by have:=(k x hb).2.2;omega
    ·rcases hx.1 with h|h
     ·exact(j x h).2.2.1
     ·omega
   refine hk _ _ (o7.node V) (((X.tr T).trans D fun x hx=>.inr ?_).trans t fun x hx=>.inr ?_)
   ·rcases hx with h|h
    ·have:=(j x h).1;omega
    ·omega
   ·have hx:x=h1.size:=hx
    omega
  refine⟨qx f.d32 hi ⟨⟨by rw[bW,aL C];rfl,by rw[bW,aL C];rfl⟩,ee (i:=2) E.blk,bw ⟨ee (i:=2) N.blk,U⟩⟩,bw ⟨ee (i:=0) N.blk,ee (i:=2) N.blk,qx f.d32 hi ⟨ee (i:=2) N.blk,U⟩⟩⟩
end Go.Proofs
namespace Go.Proofs
open Go.Lift
theorem QB{W:Nat→Prop}{h:ac}{b:Nat}{s:Slots}(nd:NodeAt W h b s)(k:∀x,W x→x<h.size){i:Nat}(hi:i<32){K:Option Addr→ac→Prop}
  (m:∀h' b',NodeAt W h' b' ⟨upd s.p i none,upd s.k i none⟩→Upd No h h'→K (some ⟨b',0,none⟩) h'):
  HC PG lO [.pointer (some ⟨b,0,none⟩),.pointer none,.int .i64 i] [.c .ptr] K h:=by
 refine Bg _ none i ?_;unfold un w7 kq;refine E8 nd hi (ai.2 ?_);refine LW nd fun p d n sp sk o c=>⟨_,rfl,IH o hi fun t u q g f j a=>?_⟩
 exact m _ _ (j.node fun x hx e=>by have:=k x e;omega) (c.trans a fun x hx=>.inr hx)
theorem x9{W:Nat→Prop}{h:ac}{b:Nat}{s:Slots}(nd:NodeAt W h b s)(hW:∀x,W x→x<h.size){i:Nat}(hi:i<32)(hx:∀y,s.k i=some y→s.p i=none)(kid:Addr){K:Option Addr→ac→Prop}
  (hk:∀h' b',NodeAt W h' b' ⟨upd s.p i none,upd s.k i (some (some kid))⟩→Upd No h h'→K (some ⟨b',0,none⟩) h'):
  HC PG gB [.pointer (some ⟨b,0,none⟩),.pointer none,.int .i64 i,.pointer (some kid)] [.c .ptr] K h:=by
 refine zW _ none i (some kid) ?_;unfold tp cp w7 dI fj bR HS kq m9;refine ai.2 ?_;refine E8 nd hi (ai.2 ?_);refine LW nd fun h2 d n sp sk o H=>?_
 have bits:=o.bits;obtain⟨A,B,hA,hB,t,q⟩:=o.ex;have Q:∀x,h.size≤x→¬W x:=fun x hx u=>by have:=hW x u;omega
 refine⟨_,rfl,_,ee (i:=1) o.blk,Cd bits.n32 hi ?_⟩;rw[bits.nk i hi];cases hp:s.k i with
 |some y=>
  refine ar.2 ⟨_,rfl,sk,ee (i:=3) o.blk,_,rfl,_,ee (i:=1) o.blk,?_⟩;refine qx bits.n32 hi ⟨ee (i:=3) o.blk,?_⟩;have hlt:=Hr hi bits.nk hp;obtain⟨a,ha,E,u,U,m⟩:=OwnS.setAt hB hlt (some kid);have hlen:=hB.len;refine⟨by omega,a,ha,?_⟩;rw[aY];have hw1:Wr h2 (adr a (vI i n*1)):=by
   rcases u with u|⟨b',hb',u⟩
   ·cases u
   ·cases hb';exact u 0 (by simp)
  refine⟨hw1,bw ?_⟩;rw[←Qf hi bits.nk hp]at U;have ob:=m.get o.blk fun e=>(q _ E).2.1 e.symm
  have z3:=m.size;have D:OwnN (fun x=>h.size≤x) _ h.size d n sp sk ⟨upd s.p i none,upd s.k i (some (some kid))⟩ none:=⟨ob,⟨bits.d32,bits.n32,fun c hc=>by rw[bits.dp c hc,uV (hx y hp)],fun c hc=>by
    rw[bits.nk c hc];simp only[upd];split
    ·rename_i e;rw[e,hp];rfl
    ·rfl⟩,
   ⟨A,B,by rw[uV (hx y hp)];exact hA.upd m fun x hx e=>(t _ hx).2.1 (e▸E),U,fun x hx=>⟨(t x hx).1,(t x hx).2.1,(t x hx).2.2.1,by have:=(t x hx).2.2.2;omega⟩,fun x hx=>⟨(q x hx).1,(q x hx).2.1,by have:=(q x hx).2.2;omega⟩⟩,o.mb⟩
  refine hk _ _ (D.node Q) (H.trans m fun x hx=>.inr ?_)
  have:=(q _ E).1;have hx:x=a.block:=hx;omega
 |none=>
  refine ai.2 ⟨_,rfl,IH o hi fun z d3 n3 F v D m=>?_⟩
  have f:=D.bits;obtain⟨A3,B3,hA3,hB3,j,k⟩:=D.ex;have z2:=H.size;have z3:=m.size;have R:Upd No h z:=H.trans m fun x hx=>.inr hx
  refine⟨_,rfl,v,ee (i:=3) D.blk,_,rfl,_,ee (i:=1) D.blk,?_⟩;have O:=Upd.hnew No z [.pointer (some kid)] bC;have b4:=bE z [.pointer (some kid)] bC;have z4:=gt z [.pointer (some kid)] bC;have I:=D.upd O fun _ h=>h.elim
  have P:HC PG cB [.slice v.a v.len v.cap,.int .i64 (vI i n3),.slice (some (aO z)) 1 1] [.c .slice] (fun(G:SliceV) N=>
       ∃a34:Addr,some (⟨h.size,0,none⟩:Addr)=some a34∧
       (Wr N (adr (adr a34 0) 3)∧
        At (hset N (adr (adr a34 0) 3) (.slice G.a G.len G.cap)) (fun J=>
         ∃a36:Addr,some (⟨h.size,0,none⟩:Addr)=some a36∧
         ∃v37:Int,aI J (adr (adr a36 0) 1)=some (.int .u32 v37)∧
         HC PG eT [.int .u32 v37,.int .i64 i] [.c (.int .u32)] (fun(e38:Int) T=>
          ∃a40:Addr,some (⟨h.size,0,none⟩:Addr)=some a40∧
          (Wr T (adr (adr a40 0) 1)∧
           At (hset T (adr (adr a40 0) 1) (.int .u32 e38)) (fun Z=>
            K (some ⟨h.size,0,none⟩) Z))) J))) (hnew z [.pointer (some kid)] bC):=by
   generalize hnew z [.pointer (some kid)] bC=h4 at O b4 z4 I;rw[cr z];have X:=(hB3.upd O fun _ _ h=>h).more (M':=fun x=>B3 x∨h4.size≤x) fun x hx=>.inl hx
   have V:(⟨upd s.p i none,upd s.k i none⟩:Slots).k i=none:=gR;refine Mc X (SP hi f.nk) (by have:=AM (g:=(⟨upd s.p i none,upd s.k i none⟩:Slots).k);omega) (x:=some kid) b4 (fun e=>e.elim (fun e=>by have:=(k _ e).2.2;omega) fun e=>by omega) (fun x hx=>.inr hx) fun s5 h5 S C=>?_
   rw[←Qg hi f.nk V (some kid)]at S;have hbl:h.size<z.size:=bo D.blk;have b5:=C.get I.blk fun e=>e.elim (fun e=>(k _ e).2.1 rfl) fun e=>by omega
   refine⟨_,rfl,Q9 (i:=3) b5 (show 3<6 by decide),Gg (i:=3) (c':=eK d3 n3 F s5 false none) b5 rfl fun h6 b6 hu6=>?_⟩
   refine⟨_,rfl,_,ee (i:=1) b6,M2 f.n32 hi fun w u hwt=>?_⟩
   refine⟨_,rfl,Q9 (i:=1) b6 (show 1<6 by decide),Gg (i:=1) (c':=eK d3 w F s5 false none) b6 rfl fun h7 b7 Y=>?_⟩
   have p:=hu6.tr Y;have z5:=C.size;have z7:=p.size;have L:=S.within;have e1:(⟨upd s.p i none,upd (⟨upd s.p i none,upd s.k i none⟩:Slots).k i (some (some kid))⟩:Slots)=⟨upd s.p i none,upd s.k i (some (some kid))⟩:=by rw[M4]
   have o7:OwnN (fun x=>h.size≤x) h7 h.size d3 w F s5 ⟨upd s.p i none,upd s.k i (some (some kid))⟩ none:=by
    rw[←e1];refine⟨b7,⟨f.d32,u,f.dp,fun c hc=>?_⟩,⟨A3,fun x=>(B3 x∨h4.size≤x)∧x<h5.size,((hA3.upd O fun _ _ h=>h).upd C fun x hx e=>?_).upd p fun x hx e=>(j x hx).2.2.1 e,L.upd p fun x hx e=>?_,fun x hx=>⟨(j x hx).1,?_,(j x hx).2.2.1,by have:=(j x hx).2.2.2;omega⟩,fun x hx=>⟨?_,?_,by omega⟩⟩,o.mb⟩
    ·rw[hwt,f.nk c hc];simp only[upd];split<;>simp[*]
    ·rcases e with e|e
     ·exact(j x hx).2.1 e
     ·have:=(j x hx).2.2.2;omega
    ·have e:x=h.size:=e
     rcases hx.1 with h|h
     ·exact(k x h).2.1 e
     ·omega
    ·rintro⟨h|h,_⟩
     ·exact(j x hx).2.1 h
     ·have:=(j x hx).2.2.2;omega
    ·rcases hx.1 with h|h
     ·exact(k x h).1
     ·omega
    ·rcases hx.1 with h|h
     ·exact(k x h).2.1
     ·omega
   refine hk _ _ (o7.node Q) (((R.tr O).trans C fun x hx=>.inr ?_).trans p fun x hx=>.inr ?_)
   ·rcases hx with h|h
    ·exact(k x h).1
    ·omega
   ·have hx:x=h.size:=hx
    omega
  refine⟨qx f.n32 hi ⟨ee (i:=3) D.blk,bw ⟨ee (i:=3) I.blk,P⟩⟩,bw ⟨ee (i:=1) I.blk,ee (i:=3) I.blk,qx f.n32 hi ⟨ee (i:=3) I.blk,P⟩⟩⟩
end Go.Proofs
namespace Go.Proofs
open Go.Lift
theorem Sm{h:ac}{b d n:Nat}{sp sk:SliceV}{e:Bool}{ow:Option Addr}(c:h[b]? =some (.cells (eK d n sp sk e ow) be (0,0))) {K:Int→ac→Prop} (a:K (d:Int) h):HC PG qh [.pointer (some ⟨b,0,none⟩)] [.c (.int .u32)] K h:=by
 refine CI _ ?_;unfold vC fj;exact ai.2 ⟨_,rfl,_,ee (i:=0) c,a⟩
theorem Kc{h:ac}{b d n:Nat}{sp sk:SliceV}{e:Bool}{ow:Option Addr}(c:h[b]? =some (.cells (eK d n sp sk e ow) be (0,0))) {K:Int→ac→Prop} (a:K (n:Int) h):HC PG lN [.pointer (some ⟨b,0,none⟩)] [.c (.int .u32)] K h:=by
 refine Bf _ ?_;unfold um fj;exact ai.2 ⟨_,rfl,_,ee (i:=1) c,a⟩
theorem iI{h:ac}{b d n:Nat}{sp sk:SliceV}{a:Bool}{ow:Option Addr}(e:h[b]? =some (.cells (eK d n sp sk a ow) be (0,0))) {K:Bool→ac→Prop} (c:K a h):HC PG dL [.pointer (some ⟨b,0,none⟩)] [.c .bool] K h:=by
 refine xS _ ?_;unfold rh bh;exact ar.2 ⟨_,rfl,_,ee (i:=4) e,c⟩
def P8(o:Option Pr):Pr:=o.getD (⟨#[]⟩,⟨#[]⟩)
theorem EU{h:ac}{b:Nat}{q p:Pr}(a:h[b]? =some (.cells #[.string q.1,.string q.2] ag (0,0))) {k:ac→Prop}
  (d:∀h',h'[b]? =some (.cells #[.string p.1,.string p.2] ag (0,0))→Upd (· =b) h h'→k h'):sw h (some ⟨b,0,none⟩) 0 [.string p.1,.string p.2]∧At (hH h ⟨b,0,none⟩ 0 [.string p.1,.string p.2]) k:=by
 have e:=jo [.string p.1,.string p.2] h 0 0 [.string q.1,.string q.2] a (by simp);refine⟨.inr ⟨_,rfl,fun j c=>by rw[bW];exact gn a (by simp at c⊢;omega)⟩,bw ?_⟩
 rw[e];refine d _ ?_ (Upd.set h _ rfl);rw[fF a];rfl
theorem Ay{W:Nat→Prop}{h:ac}{b:Nat}{s:Slots}(nd:NodeAt W h b s){i:Nat}(hi:i<32){K:Pr×Bool→ac→Prop}(k:∀h',Upd No h h'→K (P8 (s.p i),(s.p i).isSome) h'):
  HC PG iQ [.pointer (some ⟨b,0,none⟩),.int .i64 i] [.agg [.str,.str],.c .bool] K h:=by
 refine CG _ i ?_;unfold vA cp dY aF ay rp m8 fj bR m9;obtain⟨d,n,sp,sk,ow,z,bits,g,w,q,A⟩:=nd.ex;have k1:=Upd.hnew No h [.string (⟨#[]⟩:ByteArray),.string (⟨#[]⟩:ByteArray)] ag;have b1:=bE h [.string (⟨#[]⟩:ByteArray),.string (⟨#[]⟩:ByteArray)] ag;refine bw ?_;simp only[cr h];generalize hnew h [.string (⟨#[]⟩:ByteArray),.string (⟨#[]⟩:ByteArray)] ag=h1 at k1 b1
 have c:=k1.get0 z;have j:h1[h.size]? =some (.cells #[.string MZ.1,.string MZ.2] ag (0,0)):=b1;refine Sm c (Cd bits.d32 hi ?_);rw[bits.dp i hi];cases hp:s.p i with
 |none=>
  rw[hp]at k;refine ar.2 (EU (p:=MZ) j fun t b2 e=>⟨_,by rw[bW,aL b2];rfl,_,by rw[bW,aL b2];rfl,k _ (k1.trans e fun x hx=>.inr (di hx.symm))⟩)
 |some y=>
  rw[hp]at k;refine ai.2 ⟨_,rfl,sp,ee (i:=2) c,_,rfl,_,ee (i:=0) c,qx bits.d32 hi ⟨ee (i:=2) c,?_⟩⟩;have u:=Hr hi bits.dp hp;have f:=g.upd k1 fun _ h=>h.elim
  obtain⟨a,v,_,m⟩:=f.at (Qi hi bits.dp hp);have o:=g.len;refine⟨by omega,a,v,y.1,m 0 _ rfl,y.2,m 1 _ rfl,?_⟩;refine EU (p:=y) j fun t b2 e=>⟨_,by rw[bW,aL b2];rfl,_,by rw[bW,aL b2];rfl,k _ (k1.trans e fun x hx=>.inr (di hx.symm))⟩
theorem vV{W:Nat→Prop}{h:ac}{b:Nat}{s:Slots}(nd:NodeAt W h b s){i:Nat}(hi:i<32){K:Option Addr×Bool→ac→Prop}(e:K ((s.k i).getD none,(s.k i).isSome) h):
  HC PG fZ [.pointer (some ⟨b,0,none⟩),.int .i64 i] [.c .ptr,.c .bool] K h:=by
 refine D3 _ i ?_;unfold wW aZ cp fj bR m9;obtain⟨d,n,sp,sk,ow,f,bits,o,c,j,q⟩:=nd.ex;refine Kc f (Cd bits.n32 hi ?_);rw[bits.nk i hi];cases hp:s.k i with
 |none=>rw[hp]at e;exact ar.2 e
 |some y=>
  rw[hp]at e;refine ai.2 ⟨_,rfl,sk,ee (i:=3) f,_,rfl,_,ee (i:=1) f,qx bits.n32 hi ⟨ee (i:=3) f,?_⟩⟩;have k:=Hr hi bits.nk hp;obtain⟨a,m,_,p⟩:=c.at (Qi hi bits.nk hp);have g:=c.len;exact⟨by omega,a,m,y,p 0 _ rfl,e⟩
theorem xk{W:Nat→Prop}{h:ac}{b d n:Nat}{sp sk:SliceV}{c:Bool}{ow:Option Addr}{l:List Pr}(f:h[b]? =some (.cells (eK d n sp sk c ow) be (0,0))) (a:Sl eJ 2 W h sp l) (g:l.length≤1000000000) {K:SliceV→ac→Prop}
  (e:∀s' h',OwnS eJ 2 ag (fun x=>h.size≤x) h' s' l→Upd No h h'→K s' h'):HC PG fJ [.pointer (some ⟨b,0,none⟩)] [.c .slice] K h:=by
 refine tW _ ?_;unfold pH bR;exact ai.2 ⟨_,rfl,sp,ee (i:=2) f,vf a (by omega) e⟩
theorem Sa{W:Nat→Prop}{h:ac}{b d n:Nat}{sp sk:SliceV}{c:Bool}{ow:Option Addr}{l:List (Option Addr)}(f:h[b]? =some (.cells (eK d n sp sk c ow) be (0,0))) (a:Sl rA 1 W h sk l) (g:l.length≤1000000000) {K:SliceV→ac→Prop}
  (e:∀s' h',OwnS rA 1 bC (fun x=>h.size≤x) h' s' l→Upd No h h'→K s' h'):HC PG qf [.pointer (some ⟨b,0,none⟩)] [.c .slice] K h:=by
 refine vl _ ?_;unfold qm bR;exact ai.2 ⟨_,rfl,sk,ee (i:=3) f,Cq a (by omega) e⟩
structure BuckAt(W:Nat→Prop)(h:ac)(b:Nat)(l:List Pr):Prop where
 ex:∃sp sk ow,h[b]? =some (.cells (eK 0 0 sp sk true ow) be (0,0))∧Sl eJ 2 W h sp l∧Sl rA 1 W h sk []∧sp.len≤sp.cap∧sk.len≤sk.cap
 nw:¬W b
theorem BuckAt.upd{W M:Nat→Prop}{h h':ac}{b:Nat}{l:List Pr}(n:BuckAt W h b l)(k:Upd M h h')(hm:∀b,M b→W b∨h.size≤b):BuckAt W h' b l:=by
 obtain⟨sp,sk,ow,a,g,c,d,e⟩:=n.ex;exact⟨⟨sp,sk,ow,k.get a (fun f=>(hm _ f).elim n.nw fun h=>by have:=bo a;omega),g.upd k hm,c.upd k hm,d,e⟩,n.nw⟩
theorem P6{W:Nat→Prop}{h:ac}{b:Nat}{l:List Pr}(q:BuckAt W h b l)(o:bV l)(n:l.length≤1000000000)(k:ByteArray){K:ByteArray×Bool→ac→Prop}
  (i:∀h' v,Upd No h h'→(cq l k=true→(k,v)∈l)→(cq l k=false→v=⟨#[]⟩)→K (v,cq l k) h'):HC PG qi [.pointer (some ⟨b,0,none⟩),.string k] [.c .str,.c .bool] K h:=by
 refine MP _ k ?_;unfold FZ cp aF F6;obtain⟨sp,sk,ow,x,j,A,u,w⟩:=q.ex;refine xk x j n fun y t m f=>?_
 have c:Sl eJ 2 No t y l:=m.sl fun _ _ _ h=>h
 refine IB c o n k fun B d=>?_
 cases ht:cq l k with
 |false=>rw[ht]at i;exact ar.2 (i _ _ (f.tr d) (fun h=>by cases h) fun _=>rfl)
 |true=>
  rw[ht]at i;obtain⟨g,e⟩:=Ie o ht;obtain⟨a,s,_,z⟩:=(c.upd d fun _ h=>h.elim).at (List.getElem?_eq_getElem g)
  have p:=c.len;refine ai.2 ⟨by simp only;omega,a,s,_,z 1 _ rfl,i _ _ (f.tr d) (fun _=>?_) fun h=>by cases h⟩
  have:(k,l[pos l k].2)=l[pos l k]:=Prod.ext e.symm rfl;rw[this];exact bX g
theorem SM{W:Nat→Prop}{h:ac}{b:Nat}{l:List Pr}(a:BuckAt W h b l)(d:bV l)(e:l.length≤1000000000)(k:ByteArray){K:ByteArray×Bool→ac→Prop}
 (f:∀h' v,Upd No h h'→(cq l k=true→(k,v)∈l)→K (v,cq l k) h'):HC PG qi [.pointer (some ⟨b,0,none⟩),.string k] [.c .str,.c .bool] K h:=P6 a d e k fun h' v g c _=>f h' v g c
end Go.Proofs
namespace Go.Proofs
open Go.Lift
set_option maxRecDepth 4000 in
theorem Np{W:Nat→Prop}{h:ac}{b:Nat}{l:List Pr}(nd:BuckAt W h b l)(U:l.length≤1000000000){K:Option Addr→ac→Prop}
  (H:∀h' sp sk,h'[h.size]? =some (.cells (eK 0 0 sp sk true none) be (0,0))→OwnS eJ 2 ag (fun x=>h.size<x∧x<h'.size) h' sp l→OwnS rA 1 bC (fun x=>h.size<x∧x<h'.size) h' sk []→Upd No h h'→K (some ⟨h.size,0,none⟩) h'):
  HC PG fY [.pointer (some ⟨b,0,none⟩),.pointer none] [.c .ptr] K h:=by
 obtain⟨sp,sk,ow,a,t,F,Q,T⟩:=nd.ex;refine wQ _ none ?_;unfold rI eZ nv w7 dI bh fj bR Pf SW;refine G6 (ai.2 ?_);have c:∀{h:ac} {b:Nat} {c:Array Value} {i:Nat},h[b]? =some (.cells c be (0,0))→aI h ⟨b,0+i,none⟩=c[i]?:=fun a=>by rw[aH];exact aL a
 refine⟨_,rfl,_,c (i:=0) a,_,c (i:=1) a,sp,c (i:=2) a,sk,c (i:=3) a,_,c (i:=4) a,_,c (i:=5) a,?_⟩;have k1:=Upd.hnew No h [.int .u32 0,.int .u32 0,.slice none 0 0,.slice none 0 0,.bool false,.pointer none] be;have b1:=bE h [.int .u32 0,.int .u32 0,.slice none 0 0,.slice none 0 0,.bool false,.pointer none] be;refine bw ?_;simp only[cr h];generalize hnew h [.int .u32 0,.int .u32 0,.slice none 0 0,.slice none 0 0,.bool false,.pointer none] be=h1 at k1 b1
 have B:hH h1 ⟨h.size,0,none⟩ 0 [.int .u32 ((0:Nat):Int),.int .u32 ((0:Nat):Int),.slice sp.a sp.len sp.cap,.slice sk.a sk.len sk.cap,.bool true,.pointer ow]=_:=jo _ h1 0 0 _ b1 (by simp);refine⟨.inr ⟨_,rfl,fun j N=>by rw[bW];exact gn b1 (by simp at N⊢;omega)⟩,bw ?_⟩
 rw[B];have b2:=fF (o:=.cells (eK 0 0 sp sk true ow) be (0,0)) b1;have n:Upd No h _:=k1.trans (M':=(· =h.size)) (Upd.set h1 (.cells (eK 0 0 sp sk true ow) be (0,0)) rfl) fun x hx=>.inr (di hx.symm)
 have y:h.size<(h1.setIfInBounds h.size (.cells (eK 0 0 sp sk true ow) be (0,0))).size:=bo b2;have R:h.size≠b:=fun e=>by have:=bo a;omega
 have O:(Obj.cells (List.take (0+0) [Value.int .u32 0,.int .u32 0,.slice none 0 0,.slice none 0 0,.bool false,.pointer none]++ [Value.int .u32 ((0:Nat):Int),.int .u32 ((0:Nat):Int),.slice sp.a sp.len sp.cap,.slice sk.a sk.len sk.cap,.bool true,.pointer ow]++List.drop (0+0+ [Value.int .u32 ((0:Nat):Int),.int .u32 ((0:Nat):Int),.slice sp.a sp.len sp.cap,.slice sk.a sk.len sk.cap,.bool true,.pointer ow].length) [Value.int .u32 0,.int .u32 0,.slice none 0 0,.slice none 0 0,.bool false,.pointer none]).toArray be (0,0))=.cells (eK 0 0 sp sk true ow) be (0,0):=rfl
 rw[O];generalize h1.setIfInBounds h.size (.cells (eK 0 0 sp sk true ow) be (0,0))=h2 at b2 n y;have m:=n.get0 a;refine⟨_,rfl,sp,c (i:=2) m,_,rfl,sk,c (i:=3) m,?_⟩;refine vf (t.upd n fun _ h=>h.elim) (by omega) fun s V G f=>?_
 refine⟨c (i:=3) (f.get0 m),?_⟩;refine Cq ((F.upd n fun _ h=>h.elim).upd f fun _ h=>h.elim) (by simp) fun E X u g=>?_
 have I:=g.get0 (f.get0 b2);have p:=G.within.upd g fun _ _ h=>h
 have q:=u.within;have z3:=f.size;have z4:=g.size;have w:∀{h:ac} {c:Array Value} {x i:Nat},h[x]? =some (.cells c be (0,0))→i<c.size→Wr h ⟨x,0+i,none⟩:=fun a hi=>by rw[aH];exact gn a hi
 have st:∀{h:ac} {c c':Array Value} {x i:Nat} {v:Value} {k:ac→Prop},h[x]? =some (.cells c be (0,0))→c.setIfInBounds i v=c'→(∀h',h'[x]? =some (.cells c' be (0,0))→Upd (· =x) h h'→k h')→At (hset h ⟨x,i,none⟩ v) k:=fun a e H=>xP a fun h' C S=>H h' (e▸C) S
 refine⟨w (i:=2) I (show 2<6 by decide),st (i:=2) (c':=eK 0 0 s sk true ow) I rfl fun Y L D=>?_⟩
 refine⟨w (i:=3) L (show 3<6 by decide),st (i:=3) (c':=eK 0 0 s E true ow) L rfl fun h6 J A=>?_⟩
 refine⟨w (i:=5) J (show 5<6 by decide),st (i:=5) (c':=eK 0 0 s E true none) J rfl fun Z P z=>?_⟩
 refine xt (ai.2 ?_);have d:=D.tr (A.tr z);have z7:=d.size;refine H _ s E P ((p.upd d fun x hx e=>?_).more fun x hx=>?_) ((q.upd d fun x hx e=>?_).more fun x hx=>?_) ?_
 ·have e:x=h.size:=e;omega
 ·omega
 ·have e:x=h.size:=e;omega
 ·omega
 ·exact((n.tr f).tr g).trans d fun x hx=>.inr (di hx.symm)
theorem IS{W:Nat→Prop}{h:ac}{b:Nat}{l:List Pr}(w:BuckAt W h b l)(o:∀x,W x→x<h.size)(C:bV l)(q:l.length≤1000000000)(p:Pr){K:Option Addr→ac→Prop}
  (G:∀h' b',BuckAt W h' b' (Is l p)→Upd No h h'→K (some ⟨b',0,none⟩) h'):
  HC PG jp [.pointer (some ⟨b,0,none⟩),.pointer none,.agg #[.string p.1,.string p.2]] [.c .ptr] K h:=by
 refine D1 _ none p ?_;unfold wU ru w7 ay dI vR bR;have k1:=Upd.hnew No h [.string p.1,.string p.2] ag;have b1:=bE h [.string p.1,.string p.2] ag;refine bw ?_;simp only[cr h];generalize hnew h [.string p.1,.string p.2] ag=h1 at k1 b1;have J:=bo b1;have g:=w.upd k1 fun _ h=>h.elim
 obtain⟨sp,sk,ow,E,z,F,A,H⟩:=g.ex;refine iI E (ai.2 ?_);refine Np g q fun L D v b2 u s c=>?_
 have j:=c.get0 b1;refine⟨_,rfl,D,ee (i:=2) b2,p.1,by rw[bW,aL j];rfl,p.2,by rw[bW,aL j];rfl,?_⟩
 refine LV (u.sl fun _ _ _ h=>h) u.cap C q p fun t I k d=>?_
 have b3:=d.get0 b2;refine⟨_,rfl,Q9 (i:=2) b3 (show 2<6 by decide),Gg (i:=2) (c':=eK 0 0 t v true none) b3 rfl fun B y a=>?_⟩
 have N:=bo b2;have n:=k.upd a fun x hx e=>by have e:x=h1.size:=e;omega
 have m:=(s.upd d fun _ _ h=>h).upd a fun x hx e=>by have e:x=h1.size:=e;omega
 refine G B h1.size ⟨⟨t,v,none,y,n.sl fun x hx _ f=>?_,m.sl fun x hx _ f=>?_,k.cap,s.cap⟩,fun f=>?_⟩ (((k1.tr c).tr d).trans a fun x hx=>.inr ?_)
 ·have:=o x f;have:=c.size;omega
 ·have:=o x f;omega
 ·have:=o _ f;omega
 ·have hx:x=h1.size:=hx
  omega
theorem OM{W:Nat→Prop}{h:ac}(b:∀x,W x→x<h.size){K:Option Addr→ac→Prop}(a:∀h' b',BuckAt W h' b' []→Upd No h h'→K (some ⟨b',0,none⟩) h'):HC PG uN [] [.c .ptr] K h:=by
 refine Gx ?_;unfold y6;exact a _ _ ⟨⟨⟨none,0,0⟩,⟨none,0,0⟩,none,bE h _ _,Sl.nil gS,Sl.nil rz,al _,al _⟩,fun hx=>lw _ (b _ hx)⟩ (Upd.hnew No h _ _)
theorem r8{W:Nat→Prop}{h:ac}(e:∀x,W x→x<h.size){K:Option Addr→ac→Prop}(a:∀h' b',NodeAt W h' b' ⟨fun _=>none,fun _=>none⟩→Upd No h h'→K (some ⟨b',0,none⟩) h'):HC PG px [] [.c .ptr] K h:=by
 refine Jc ?_;unfold Bw Pf;have d:fm (fun _=>(none:Option Pr)) 32= []:=by simp[fm]
 have b:fm (fun _=>(none:Option (Option Addr))) 32= []:=by simp[fm]
 refine a _ _ ⟨⟨0,0,⟨none,0,0⟩,⟨none,0,0⟩,none,bE h _ _,⟨by decide,by decide,fun c _=>by simp,fun c _=>by simp⟩,?_,?_,al _,al _⟩,fun hx=>lw _ (e _ hx)⟩ (Upd.hnew No h _ _)
 ·show Sl eJ 2 W _ _ (fm (fun _=>none) 32)
  rw[d];exact Sl.nil gS
 ·show Sl rA 1 W _ _ (fm (fun _=>none) 32)
  rw[b];exact Sl.nil rz
end Go.Proofs
namespace Go.Proofs
open Go.Lift
def jZ(p:Pr):List Pr→List Pr
 | []=> [p]
 |q::l=>if kl q.1 p.1 then q::jZ p l else if q.1=p.1 then p::l else p::q::l
theorem mD(p q:Pr)(l:List Pr):jZ p (q::l)=if kl q.1 p.1 then q::jZ p l else if q.1=p.1 then p::l else p::q::l:=rfl
theorem Ef(p:Pr):∀{l:List Pr},bV l→Is l p=jZ p l
 | [],_=>by simp[Is,jZ,pos,cq]
 |q::l,d=>by
  have d:=aB.1 d;unfold jZ;have a:pos (q::l) p.1=if kl q.1 p.1 then pos l p.1+1 else 0:=by
   unfold pos;rw[nD];by_cases h:kl q.1 p.1
   ·rw[if_pos (by simpa using h),if_pos h];rfl
   ·rw[if_neg (by simpa using h),if_neg h];rfl
  have c:cq (q::l) p.1=(decide (q.1=p.1)||cq l p.1):=by unfold cq;rw[List.any_cons]
  by_cases h:kl q.1 p.1
  ·have f:q.1≠p.1:=fun e=>by rw[e]at h;exact cn _ h
   rw[if_pos h,←Ef p d.2];unfold Is;rw[c,a,if_pos h,decide_eq_false f,Bool.false_or];by_cases b:cq l p.1=true
   ·rw[if_pos b,if_pos b];rfl
   ·rw[if_neg b,if_neg b];rfl
  ·rw[if_neg h]
   unfold Is;rw[c,a,if_neg h];by_cases e:q.1=p.1
   ·rw[if_pos e,decide_eq_true e,Bool.true_or,if_pos rfl];rfl
   ·have g:=rB h e
    have b:cq l p.1=false:=by
     unfold cq;rw[List.any_eq_false];intro r j i;have i:=of_decide_eq_true i;have:=d.1 r j;rw[i]at this;exact cn _ (gU g this)
    rw[if_neg e,decide_eq_false e,b];rfl
theorem xn{p q:Pr}:∀{l:List Pr},q∈jZ p l→q=p∨q∈l
 | [],h=>by simp[jZ]at h;exact .inl h
 |r::l,h=>by
  unfold jZ at h;split at h
  ·rcases aq.1 h with h|h
   ·exact .inr (h▸au ..)
   ·exact(xn h).imp id fun h=>az _ h
  ·split at h
   ·rcases aq.1 h with h|h
    ·exact .inl h
    ·exact .inr (az _ h)
   ·rcases aq.1 h with h|h
    ·exact .inl h
    ·exact .inr h
theorem yc(p:Pr):∀{l:List Pr},bV l→bV (jZ p l)
 | [],_=>cd ..
 |q::l,a=>by
  have c:=a;have a:=aB.1 a;unfold jZ;split
  ·rename_i h
   refine aB.2 ⟨fun r hm=>?_,yc p a.2⟩
   rcases xn hm with rfl|hm
   ·exact h
   ·exact a.1 r hm
  ·rename_i h
   split
   ·rename_i e
    exact aB.2 ⟨fun r hm=>e▸a.1 r hm,a.2⟩
   ·rename_i e
    have b:=rB h e;refine aB.2 ⟨fun r hm=>?_,c⟩
    rcases aq.1 hm with rfl|hm
    ·exact b
    ·exact gU b (a.1 r hm)
theorem Ff(p:Pr)(g:ByteArray→Bool):∀{l:List Pr},bV l→(jZ p l).filter (fun q=>g q.1)=if g p.1 then jZ p (l.filter fun q=>g q.1)else l.filter fun q=>g q.1
 | [],_=>by
  unfold jZ;rw[bl,List.filter_nil]
 |q::l,d=>by
  have k:=d;have d:=aB.1 d;have j:=Ff p g d.2;rw[mD];by_cases h:kl q.1 p.1
  ·rw[if_pos h,bl,bl,j]
   by_cases f:g q.1=true
   ·rw[if_pos f,if_pos f]
    split
    ·rw[mD,if_pos h]
    ·rfl
   ·rw[if_neg f,if_neg f]
  ·rw[if_neg h]
   by_cases e:q.1=p.1
   ·rw[if_pos e,bl,bl,e]
    by_cases a:g p.1=true
    ·rw[if_pos a,if_pos a,if_pos a,mD,if_neg h,if_pos e]
    ·rw[if_neg a,if_neg a,if_neg a]
   ·rw[if_neg e]
    have c:=rB h e;rw[bl];by_cases a:g p.1=true
    ·rw[if_pos a,if_pos a]
     have:∀r∈(q::l).filter (fun q=>g q.1),kl p.1 r.1:=fun r hm=>by
      rcases aq.1 (ci.1 hm).1 with rfl|hm
      ·exact c
      ·exact gU c (d.1 r hm)
     cases hf:(q::l).filter (fun q=>g q.1)with
     |nil=>rfl
     |cons r rs=>
      have b:=this r (by rw[hf];exact au ..);rw[mD,if_neg fun i=>cn _ (gU b i),if_neg fun e=>by rw[e]at b;exact cn _ b]
    ·rw[if_neg a,if_neg a]
theorem Ee{p:Pr}:∀{l:List Pr},bV l→p∈l→jZ p l=l
 |q::l,a,hm=>by
  have a:=aB.1 a;unfold jZ;rcases aq.1 hm with rfl|hm
  ·rw[if_neg (cn _),if_pos rfl]
  ·rw[if_pos (a.1 p hm),Ee a.2 hm]
def ck(x:Hs)(lev:Nat)(k:ByteArray):Nat:=((jt x k).toNat>>>(5*lev))%32
theorem yR(x:Hs)(lev:Nat)(k:ByteArray):ck x lev k<32:=tC _ (by omega)
def part(x:Hs)(lev c:Nat)(l:List Pr):List Pr:=l.filter fun p=>decide (ck x lev p.1=c)
def TrieAt(W:Nat→Prop)(x:Hs)(h:ac):Nat→Nat→List Pr→Prop
 |0,b,l=>BuckAt W h b l
 |m+1,b,l=>∃s,NodeAt W h b s∧∀c,c<32→
  ((part x (12-m) c l= []∧s.p c=none∧s.k c=none)∨(∃p,part x (12-m) c l= [p]∧s.p c=some p∧s.k c=none)∨
   (2≤(part x (12-m) c l).length∧s.p c=none∧∃kb,s.k c=some (some ⟨kb,0,none⟩)∧TrieAt W x h m kb (part x (12-m) c l)))
theorem TrieAt.upd0{W:Nat→Prop}{x:Hs}{h h':ac}(k:Upd No h h'):∀{m b:Nat} {l:List Pr},TrieAt W x h m b l→TrieAt W x h' m b l
 |0,_,_,t=>BuckAt.upd t k fun _ h=>h.elim
 |m+1,_,_,⟨s,nd,hc⟩=>⟨s,nd.upd k fun _ h=>h.elim,fun c a=>(hc c a).imp id fun o=>o.imp id fun⟨i,d,f,g,e⟩=>⟨i,d,f,g,TrieAt.upd0 k e⟩⟩
theorem NodeAt.less{W W':Nat→Prop}{h:ac}{b:Nat}{s:Slots}(n:NodeAt W h b s)(hm:∀b,W' b→W b∨h.size≤b):NodeAt W' h b s:=by
 obtain⟨d,m,sp,sk,ow,a,c,i,e,f,g⟩:=n.ex;exact⟨⟨d,m,sp,sk,ow,a,c,i.less hm,e.less hm,f,g⟩,fun hx=>(hm _ hx).elim n.nw fun h=>by have:=bo a;omega⟩
theorem BuckAt.less{W W':Nat→Prop}{h:ac}{b:Nat}{l:List Pr}(n:BuckAt W h b l)(hm:∀b,W' b→W b∨h.size≤b):BuckAt W' h b l:=by
 obtain⟨sp,sk,ow,a,f,c,d,e⟩:=n.ex;exact⟨⟨sp,sk,ow,a,f.less hm,c.less hm,d,e⟩,fun hx=>(hm _ hx).elim n.nw fun h=>by have:=bo a;omega⟩
theorem TrieAt.less{W W':Nat→Prop}{x:Hs}{h:ac}(hm:∀b,W' b→W b∨h.size≤b):∀{m b:Nat} {l:List Pr},TrieAt W x h m b l→TrieAt W' x h m b l
 |0,_,_,t=>BuckAt.less t hm
 |m+1,_,_,⟨s,nd,hc⟩=>⟨s,nd.less hm,fun c a=>(hc c a).imp id fun o=>o.imp id fun⟨i,d,f,g,e⟩=>⟨i,d,f,g,TrieAt.less hm e⟩⟩
theorem TrieAt.updM{W M:Nat→Prop}{x:Hs}{h h':ac}(k:Upd M h h')(hm:∀b,M b→W b∨h.size≤b):∀{m b:Nat} {l:List Pr},TrieAt W x h m b l→TrieAt W x h' m b l
 |0,_,_,t=>BuckAt.upd t k hm
 |m+1,_,_,⟨s,nd,hc⟩=>⟨s,nd.upd k hm,fun c a=>(hc c a).imp id fun o=>o.imp id fun⟨i,d,f,g,e⟩=>⟨i,d,f,g,TrieAt.updM k hm e⟩⟩
end Go.Proofs
namespace Go.Proofs
open Go.Lift
theorem TM(a b:Nat):(ak (IntKind.bits .u64) (a:Int)&&&ak (IntKind.bits .u64) (b:Int)).toNat=(a%18446744073709551616)&&&(b%18446744073709551616):=by
 simp[IntKind.bits,BitVec.toNat_and,BitVec.toNat_ofInt];rfl
theorem UP{a:Int}(f:0≤a∧a<18446744073709551616){lev:Nat}(g:lev<13){h:ac}{K:Int→ac→Prop}(c:K (((a.toNat>>>(5*lev))%32:Nat):Int) h):HC PG ml [.int .u64 a,.int .i64 lev] [.c (.int .i64)] K h:=by
 refine MO a lev ?_;unfold FY;refine Join.plain (aD (fun h=>by omega) fun _=>?_)
 rw[decide_eq_false (by omega)];refine ai.2 ?_;have d:IntKind.wrap .i64 (5*(lev:Int))=((5*lev:Nat):Int):=by rw[d8 (by omega)];omega
 rw[d];have em:min (((5*lev:Nat):Int)).toNat (IntKind.bits .u64)=5*lev:=by rw[aY];exact bH (by show 5*lev≤64;omega)
 rw[em];obtain⟨n,rfl⟩:=Int.eq_ofNat_of_zero_le f.1;rw[aY]at c;simp only[Bd];rw[sJ];have b:n>>>(5*lev)<18446744073709551616:=Nat.lt_of_le_of_lt (Nat.shiftRight_le _ _) (by omega);have e:=TM (n>>>(5*lev)) 31;rw[Nat.mod_eq_of_lt b,show((31:Nat):Int)=(31:Int)from rfl,show 31%18446744073709551616=2^5-1 from rfl,Nat.and_two_pow_sub_one_eq_mod]at e
 rw[e];have hm:n>>>(5*lev)%2^5<32:=tC _ (by omega);rw[Go.IntWalk.u64_in _ (by omega),d8 (by omega)];exact⟨by omega,c⟩
theorem QC{x:Hs}{k:ByteArray}{lev:Nat}(b:lev<13){h:ac}{K:Int→ac→Prop}(a:K (ck x lev k:Int) h):HC PG ml [.int .u64 (jt x k),.int .i64 lev] [.c (.int .i64)] K h:=UP (Kp x k) b a
abbrev Pj(x:Hs)(k:ByteArray):Value:=.agg #[.int .u64 x.k0,.int .u64 x.k1,.int .u64 x.mask,.pointer none,.string k,.int .u64 (jt x k)]
theorem JY{x:Hs}{lev c:Nat}{l:List Pr}(h:∀p∈l,ck x lev p.1=c):part x lev c l=l:=List.filter_eq_self.2 fun p a=>decide_eq_true (h p a)
theorem Nn{x:Hs}{lev c:Nat}{l:List Pr}(h:∀p∈l,ck x lev p.1≠c):part x lev c l= []:=List.filter_eq_nil_iff.2 fun p a=>by simpa using h p a
theorem JW{x:Hs}{lev c:Nat}{p:Pr}{l:List Pr}(a:bV l):part x lev c (jZ p l)=if ck x lev p.1=c then jZ p (part x lev c l)else part x lev c l:=by
 have:=Ff p (fun k=>decide (ck x lev k=c)) a
 unfold part;rw[this];by_cases h:ck x lev p.1=c
 ·rw[if_pos h,if_pos (decide_eq_true h)]
 ·rw[if_neg h,if_neg (by simpa using h)]
theorem M5{p q:Pr}(h:p.1≠q.1):(jZ q [p]).length=2:=by
 rw[mD];by_cases a:kl p.1 q.1
 ·rw[if_pos a];rfl
 ·rw[if_neg a,if_neg h];rfl
theorem Ns{p q r:Pr}(h:r∈jZ q [p]):r=p∨r=q:=(xn h).symm.imp (fun h=>av.1 h) id
theorem gq{β:Type}{g:Nat→Option β}{i c:Nat}{x:Option β}(h:c≠i):upd g i x c=g c:=by unfold upd;rw[if_neg h]
theorem Sw{W:Nat→Prop}{x:Hs}:∀(m:Nat) (p q:Pr),m≤13→p.1≠q.1→∀{h:ac},(∀y,W y→y<h.size)→∀{K:Option Addr→ac→Prop},(∀h' b',TrieAt W x h' m b' (jZ q [p])→Upd No h h'→K (some ⟨b',0,none⟩) h')→
  HC PG lR [Pj x q.1,.agg #[.string p.1,.string p.2],.agg #[.string q.1,.string q.2],.int .i64 ((13-m:Nat):Int)] [.c .ptr] K h:=by
 intro m;induction m with
 |zero=>
  intro p q _ G h V K P;have B:∀{h'},Upd No h h'→∀y,W y→y<h'.size:=fun k y T=>aC (V y T) k.size
  refine tY (x.k0,x.k1,x.mask,none,q.1,jt x q.1) p q ((13-0:Nat):Int) ?_;unfold pJ ae BN af ru ay eE vR y9 Ig uA Et;have k1:=Upd.hnew No h [.int .u64 x.k0,.int .u64 x.k1,.int .u64 x.mask,.pointer none,.string q.1,.int .u64 (jt x q.1)] cC;have b1:=bE h [.int .u64 x.k0,.int .u64 x.k1,.int .u64 x.mask,.pointer none,.string q.1,.int .u64 (jt x q.1)] cC
  refine bw ?_;simp only[cr h];generalize hnew h [.int .u64 x.k0,.int .u64 x.k1,.int .u64 x.mask,.pointer none,.string q.1,.int .u64 (jt x q.1)] cC=h1 at k1 b1;have C:=Upd.hnew No h1 [.string p.1,.string p.2] ag;have b2:=bE h1 [.string p.1,.string p.2] ag;refine bw ?_;simp only[cr h1];generalize hnew h1 [.string p.1,.string p.2] ag=h2 at C b2
  have z:=Upd.hnew No h2 [.string q.1,.string q.2] ag;have b3:=bE h2 [.string q.1,.string q.2] ag;refine bw ?_;simp only[cr h2];generalize hnew h2 [.string q.1,.string q.2] ag=h3 at z b3;have d:∀{h':ac},Upd No h3 h'→∀i,aI h' (adr ⟨h.size,0,none⟩ i)=(#[.int .u64 x.k0,.int .u64 x.k1,.int .u64 x.mask,.pointer none,.string q.1,.int .u64 (jt x q.1)]:Array Value)[i]?:=fun k i=>by
   rw[bW,aL (k.get0 (z.get0 (C.get0 b1))),aH]
  have u:∀{h':ac},Upd No h3 h'→∀i,aI h' (adr ⟨h1.size,0,none⟩ i)=(#[.string p.1,.string p.2]:Array Value)[i]?:=fun k i=>by rw[bW,aL (k.get0 (z.get0 b2)),aH]
  have n:∀{h':ac},Upd No h3 h'→∀i,aI h' (adr ⟨h2.size,0,none⟩ i)=(#[.string q.1,.string q.2]:Array Value)[i]?:=fun k i=>by rw[bW,aL (k.get0 b3),aH]
  have r:=Upd.refl No h3;refine ar.2 ⟨none,d r 3,p.1,u r 0,p.2,u r 1,none,d r 3,q.1,n r 0,q.2,n r 1,?_⟩;refine OM (B ((k1.tr C).tr z)) fun h4 b4 X b=>⟨⟨n b 0,n b 1⟩,d b 3,⟨u b 0,u b 1⟩,d b 3,?_⟩
  refine IS X (B (((k1.tr C).tr z).tr b)) db (by simp) p fun Y Z J A=>?_
  have o:=b.tr A;refine⟨⟨n o 0,n o 1⟩,d o 3,?_⟩;have O:Is [] p= [p]:=Ef p db;rw[O]at J;refine IS J (B (((k1.tr C).tr z).tr o)) (cd ..) (by simp) q fun S N L v=>?_
  rw[Ef q (cd ..)]at L;exact P S N L ((((k1.tr C).tr z).tr o).tr v)
 |succ m ih=>
  intro p q hm G h V K P;have B:∀{h'},Upd No h h'→∀y,W y→y<h'.size:=fun k y T=>aC (V y T) k.size
  have hl:13-(m+1)<13:=by omega
  have g:13-(m+1)=12-m:=by omega
  refine tY (x.k0,x.k1,x.mask,none,q.1,jt x q.1) p q ((13-(m+1):Nat):Int) ?_;unfold pJ ae BN af ru ay eE vR y9 Ig uA Et;have k1:=Upd.hnew No h [.int .u64 x.k0,.int .u64 x.k1,.int .u64 x.mask,.pointer none,.string q.1,.int .u64 (jt x q.1)] cC;have b1:=bE h [.int .u64 x.k0,.int .u64 x.k1,.int .u64 x.mask,.pointer none,.string q.1,.int .u64 (jt x q.1)] cC
  refine bw ?_;simp only[cr h];generalize hnew h [.int .u64 x.k0,.int .u64 x.k1,.int .u64 x.mask,.pointer none,.string q.1,.int .u64 (jt x q.1)] cC=h1 at k1 b1;have C:=Upd.hnew No h1 [.string p.1,.string p.2] ag;have b2:=bE h1 [.string p.1,.string p.2] ag;refine bw ?_;simp only[cr h1];generalize hnew h1 [.string p.1,.string p.2] ag=h2 at C b2
  have z:=Upd.hnew No h2 [.string q.1,.string q.2] ag;have b3:=bE h2 [.string q.1,.string q.2] ag;refine bw ?_;simp only[cr h2];generalize hnew h2 [.string q.1,.string q.2] ag=h3 at z b3;have d:∀{h':ac},Upd No h3 h'→∀i,aI h' (adr ⟨h.size,0,none⟩ i)=(#[.int .u64 x.k0,.int .u64 x.k1,.int .u64 x.mask,.pointer none,.string q.1,.int .u64 (jt x q.1)]:Array Value)[i]?:=fun k i=>by
   rw[bW,aL (k.get0 (z.get0 (C.get0 b1))),aH]
  have u:∀{h':ac},Upd No h3 h'→∀i,aI h' (adr ⟨h1.size,0,none⟩ i)=(#[.string p.1,.string p.2]:Array Value)[i]?:=fun k i=>by rw[bW,aL (k.get0 (z.get0 b2)),aH]
  have n:∀{h':ac},Upd No h3 h'→∀i,aI h' (adr ⟨h2.size,0,none⟩ i)=(#[.string q.1,.string q.2]:Array Value)[i]?:=fun k i=>by rw[bW,aL (k.get0 b3),aH]
  have r:=Upd.refl No h3;have ne:(((13-(m+1):Nat):Int)==(13:Int))=false:=by rw[beq_eq_false_iff_ne];omega
  rw[ne];refine ai.2 ⟨_,d r 0,_,d r 1,_,d r 2,_,u r 0,_,d r 5,?_⟩;refine AH fun h4 b=>⟨d b 5,QC hl ⟨d b 5,QC hl ?_⟩⟩
  have hi:=yR x (13-(m+1)) p.1;have hj:=yR x (13-(m+1)) q.1;have j:=((k1.tr C).tr z);have hcl:=M5 G;refine CondP.intro (fun e=>?_) fun e=>?_
  ·have e:ck x (13-(m+1)) p.1=ck x (13-(m+1)) q.1:=by have:=eq_of_beq e;omega
   refine⟨_,d b 3,_,d b 0,_,d b 1,_,d b 2,_,d b 3,_,d b 4,_,d b 5,_,u b 0,_,u b 1,_,n b 0,_,n b 1,?_⟩;refine r8 (B (j.tr b)) fun Y Z I A=>?_
   have a:=b.tr A;refine⟨⟨n a 0,n a 1⟩,⟨u a 0,u a 1⟩,⟨d a 0,d a 1,d a 2,d a 3,d a 4,d a 5⟩,d a 3,?_⟩;have ew:IntKind.wrap .i64 (((13-(m+1):Nat):Int)+1)=((13-m:Nat):Int):=by rw[d8 (by omega)];omega
   rw[ew];refine ih p q (by omega) G (B (j.tr a)) fun S N t6 v=>?_
   have f:=a.tr v;refine⟨d f 3,?_⟩;refine x9 (I.upd v fun _ h=>h.elim) (B (j.tr f)) hi (fun y h=>by cases h) ⟨N,0,none⟩ fun R Q F D=>?_
   refine P R Q ⟨_,F,fun c hc=>?_⟩ ((j.tr f).tr D)
   rw[g]at e;by_cases s:c=ck x (13-(m+1)) p.1
   ·refine .inr (.inr ?_)
    have ea:part x (12-m) c (jZ q [p])=jZ q [p]:=JY fun r H=>by
     rcases Ns H with rfl|rfl
     ·rw[s,g]
     ·rw[s,g,e]
    rw[ea];exact⟨by omega,by simp[upd],N,by rw[s];exact gR,TrieAt.upd0 D t6⟩
   ·refine .inl ⟨Nn fun r H=>?_,by simp[upd],gq s⟩
    rw[g]at s;rcases Ns H with rfl|rfl
    ·exact fun e=>s e.symm
    ·rw[←e];exact fun e=>s e.symm
  ·have e:ck x (13-(m+1)) p.1≠ck x (13-(m+1)) q.1:=fun h=>by rw[h]at e;simp at e
   refine⟨_,d b 3,_,u b 0,_,u b 1,_,d b 3,_,n b 0,_,n b 1,?_⟩;refine r8 (B (j.tr b)) fun Y Z I A=>?_
   have a:=b.tr A;refine⟨⟨n a 0,n a 1⟩,d a 3,⟨u a 0,u a 1⟩,d a 3,?_⟩;refine sA I (B (j.tr a)) hi (fun y h=>by cases h) p fun S N U v=>?_
   have f:=a.tr v;refine⟨⟨n f 0,n f 1⟩,d f 3,?_⟩;refine sA U (B (j.tr f)) hj (fun y h=>by simp[upd]) q fun R Q F D=>?_
   refine P R Q ⟨_,F,fun c hc=>?_⟩ ((j.tr f).tr D)
   have t:=JW (x:=x) (lev:=12-m) (c:=c) (p:=q) (l:= [p]) (cd ..);rw[g]at e;by_cases E:c=ck x (12-m) p.1
   ·have w:ck x (12-m) q.1≠c:=fun h=>e (by omega)
    have O:part x (12-m) c [p]= [p]:=JY fun r H=>by rw[av.1 H,E]
    rw[if_neg w,O]at t;exact .inr (.inl ⟨p,t,by simp[upd,g,E,e],by simp[upd]⟩)
   ·have O:part x (12-m) c [p]= []:=Nn fun r H=>by rw[av.1 H];exact fun h=>E h.symm
    rw[O]at t;by_cases w:c=ck x (12-m) q.1
    ·rw[if_pos w.symm]at t
     exact .inr (.inl ⟨q,t,by simp[upd,g,w],by simp[upd]⟩)
    ·rw[if_neg fun h=>w h.symm]at t
     exact .inl ⟨t,by simp[upd,g,w,E],by simp[upd]⟩
end Go.Proofs
