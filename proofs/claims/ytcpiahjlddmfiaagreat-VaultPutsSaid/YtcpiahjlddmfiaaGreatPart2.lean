/- A part of the proof that the named laws of this program answer true, whatever the input. -/
import Derived.Test.YtcpiahjlddmfiaaGreatPart1
open BitVec renaming ofInt→af
open Int renaming toNat_natCast→aF
open List renaming append_nil→bI,append_assoc→ao,append_cancel_left→gv,mem_cons_self→au,mem_cons→aq,length→eH,length_append→ae,getElem_of_mem→eC,length_take→aJ,take_append_drop→aM,pairwise_append→cz,pairwise_cons→bd,length_set→mB,getElem_mem→aU,pairwise_iff_getElem→ey,take_succ_cons→dz,drop_succ_cons→l3,flatMap_cons→aK,drop_left'→cn,mem_cons_of_mem→aG,pairwise_singleton→cV,filter_cons→cf,mem_singleton→aB
open List.Pairwise renaming nil→cQ
open Nat renaming zero_add→aA,min_eq_left→bf,le_of_eq→dP,le_refl→aj,lt_irrefl→jV,mod_lt→oY,lt_of_lt_of_le→aO
open Option renaming some→bC
open UInt8 renaming toNat_inj→jQ
namespace Go.Proofs
theorem Mg{m n:Bn}(hb:Br (wz m.2.1 m.2.2))(h:∀k v,yL m k v→yL n k v):∃t,m.1=n.1++t:=by
 rcases hb with⟨v,hv⟩|⟨j,k,u,v,i,g,o,nk,b⟩
 ·obtain⟨r,e,_⟩:=h m.1 v ⟨[],(bI _).symm,hv⟩
  exact⟨r,e⟩
 ·obtain⟨r,e,_⟩:=h (m.1++j) u ⟨j,rfl,i⟩
  obtain⟨s,f,_⟩:=h (m.1++k) v ⟨k,rfl,g⟩;rcases List.append_eq_append_iff.1 e with⟨a,c,d⟩|⟨a,c,d⟩
  ·rw[c,ao]at f
   have f:=gv f;cases a with
   |nil=>exact⟨[],by rw[c];simp⟩
   |cons x a=>
    rw[d]at b;rw[f]at b;exact absurd rfl b
  ·exact⟨a,c⟩
theorem K3:∀{F F':Fo},gf F→gf F'→(∀k v,vd F k v↔vd F' k v)→F=F'
 | .nil,.nil,_,_,_=>rfl
 | .nil,.cons lab w b c,_,h,he=>by
  obtain⟨r,v,j⟩:=pB h _ (au ..);exact((he _ v).2 (iI.2 ⟨_,au ..,r,rfl,j⟩)).elim
 | .cons lab w b c,.nil,h,_,he=>by
  obtain⟨r,v,j⟩:=pB h _ (au ..);exact((he _ v).1 (iI.2 ⟨_,au ..,r,rfl,j⟩)).elim
 | .cons lab w b c,.cons d g a f,h,h',he=>by
  have x:∀{lab w b c} {F:Fo},gf (.cons lab w b c)→gf F→(∀k v,vd F k v→vd (.cons lab w b c) k v)→∀n∈F.toL,hd lab≤hd n.1:=by
   intro lab w b c F h G hi n i;obtain⟨r,v,j⟩:=pB G n i;obtain⟨m,hm,e,_⟩:=ux h (hi _ v (iI.2 ⟨n,i,r,rfl,j⟩));rw[rh ((gJ.1 G).2 n i).1]at e;rcases aq.1 hm with rfl|hm
   ·simp only at e;omega
   ·have:=h.2.2.2.1 m hm;omega
  have N:=x h h' (fun k v=>(he k v).2) _ (au ..)
  have O:=x h' h (fun k v=>(he k v).1) _ (au ..)
  simp only at N O;have q:hd lab=hd d:=by omega
  have z:∀{lab w b c d g a f},gf (.cons lab w b c)→gf (.cons d g a f)→hd lab=hd d→(∀k v,vd (.cons lab w b c) k v→vd (.cons d g a f) k v)→(∀k v,yL (lab,w,b) k v→yL (d,g,a) k v)∧(∀k v,vd c k v→vd f k v):=by
   intro lab w b c d g a f h h' q hi;refine⟨fun k v o=>?_,fun k v o=>?_⟩
   ·obtain⟨n,i,e,j⟩:=ux h' (hi k v (iI.2 ⟨_,au ..,o⟩))
    obtain⟨r,rfl,_⟩:=o;rw[rh h.1]at e;rw[←GV h' i (au ..) (by simp only;omega)];exact j
   ·obtain⟨m,hm,em,_⟩:=ux h.2.2.2.2 o
    have:=h.2.2.2.1 m hm;obtain⟨n,i,e,j⟩:=ux h' (hi k v (Or.inr o));rcases aq.1 i with rfl|i
    ·simp only at e;omega
    ·exact iI.2 ⟨n,i,j⟩
  have⟨D,I⟩:=z h h' q fun k v=>(he k v).1
  have⟨E,P⟩:=z h' h q.symm fun k v=>(he k v).2
  have s:c=f:=K3 h.2.2.2.2 h'.2.2.2.2 fun k v=>⟨I k v,P k v⟩
  obtain⟨t,B⟩:=Mg (m:=(lab,w,b)) (n:=(d,g,a)) ((DX h.2.2.1).1 h.2.1) D;obtain⟨Q,A⟩:=Mg (m:=(d,g,a)) (n:=(lab,w,b)) ((DX h'.2.2.1).1 h'.2.1) E;simp only at B A;have u:lab=d:=by
   have:t= []:=by
    have L:=congrArg eH B;have K:=congrArg eH A;rw[ae]at L K;exact List.length_eq_zero_iff.1 (by omega)
   rw[B,this,bI]
  subst u;have y:∀{w b g a},(∀k v,yL (lab,w,b) k v→yL (lab,g,a) k v)→∀k v,wz w b k v→wz g a k v:=by
   intro w b g a i k v o;obtain⟨r,e,j⟩:=i (lab++k) v ⟨k,rfl,o⟩;rw[gv e];exact j
  have H:=y D;have C:=y E;have J:w=g:=by
   have wv:∀{w b g a},gf a→(∀k v,wz w b k v→wz g a k v)→∀v,w=some v→g=some v:=by
    intro w b g a hc hi v hv;rcases hi [] v (.inl ⟨rfl,hv⟩)with⟨_,h⟩|h
    ·exact h
    ·exact absurd rfl (qa hc h)
   exact Option.ext fun v=>⟨wv h'.2.2.1 H v,wv h.2.2.1 C v⟩
  have kd:∀{w b g a},gf b→(∀k v,wz w b k v→wz g a k v)→∀k v,vd b k v→vd a k v:=by
   intro w b g a hc hi k v o;rcases hi k v (.inr o)with⟨e,_⟩|h
   ·exact absurd e (qa hc o)
   ·exact h
  have p:b=a:=K3 h.2.2.1 h'.2.2.1 fun k v=>⟨kd h.2.2.1 H k v,kd h'.2.2.1 C k v⟩
  rw[J,p,s]
def tl(P a:List UInt8→ByteArray→Prop)(k:List UInt8)(v:ByteArray):Prop:=∀k' v',a k' v'↔(k'=k∧v'=v)∨(k'≠k∧P k' v')
theorem Fc{w:Option ByteArray}{F:Fo}(h:gf F)(v:ByteArray):tl (wz w F) (wz (some v) F) [] v:=by
 intro k' a;unfold wz;constructor
 ·rintro(⟨e,f⟩|hi)
  ·exact .inl ⟨e,(bC.inj f).symm⟩
  ·exact .inr ⟨qa h hi,.inr hi⟩
 ·rintro(⟨e,f⟩|⟨e,⟨f,_⟩|hi⟩)
  ·exact .inl ⟨e,by rw[f]⟩
  ·exact absurd f e
  ·exact .inr hi
theorem AG{w:Option ByteArray}{F F':Fo}{k:List UInt8}{v:ByteArray}(b:k≠[])(h:tl (vd F) (vd F') k v):tl (wz w F) (wz w F') k v:=by
 intro k' c;unfold wz;rw[h k' c];constructor
 ·rintro(⟨e,f⟩|hi|hi)
  ·exact .inr ⟨fun a=>b (a.symm.trans e),.inl ⟨e,f⟩⟩
  ·exact .inl hi
  ·exact .inr ⟨hi.1,.inr hi.2⟩
 ·rintro(hi|⟨e,hi|hi⟩)
  ·exact .inr (.inl hi)
  ·exact .inl hi
  ·exact .inr (.inr ⟨e,hi⟩)
theorem Nd{F:Fo}{k:List UInt8}{v:ByteArray}{i:Nat}(h:gf F)(u:k≠[])(hi:∀j (d:j<F.toL.length),j<i→hd F.toL[j].1<hd k)(g:∀j (d:j<F.toL.length),i≤j→hd k<hd F.toL[j].1):gf (.ofL (F.toL.take i++(k,some v,.nil)::F.toL.drop i))∧tl (vd F) (vd (.ofL (F.toL.take i++(k,some v,.nil)::F.toL.drop i))) k v:=by
 have hc:=gJ.1 h;have x:∀n∈F.toL.take i,hd n.1<hd k:=fun n c=>by
  obtain⟨j,d,e⟩:=eC c;rw[aJ]at d;rw[←e,List.getElem_take];exact hi j (by omega) (by omega)
 have t:∀n∈F.toL.drop i,hd k<hd n.1:=fun n c=>by
  obtain⟨j,d,e⟩:=eC c;rw[List.length_drop]at d;rw[←e,List.getElem_drop];exact g _ (by omega) (by omega)
 have mem:∀n,n∈F.toL.take i++(k,some v,.nil)::F.toL.drop i↔n=(k,some v,Fo.nil)∨n∈F.toL:=fun n=>by
  conv=>rhs;rw[←aM i F.toL]
  simp only[List.mem_append,aq];exact⟨fun h=>h.elim (fun h=>.inr (.inl h)) fun h=>h.elim .inl fun h=>.inr (.inr h),fun h=>h.elim (fun h=>.inr (.inl h)) fun h=>h.elim .inl fun h=>.inr (.inr h)⟩
 refine⟨gJ.2 ⟨?_,?_⟩,fun k' w=>?_⟩
 ·rw[Fo.to_of]
  have m:=hc.1;rw[←aM i F.toL,cz]at m;refine cz.2 ⟨m.1,bd.2 ⟨t,m.2.1⟩,fun a p b hb=>?_⟩
  rcases aq.1 hb with rfl|hb
  ·exact x a p
  ·exact m.2.2 a p b hb
 ·rw[Fo.to_of]
  intro n c;rcases(mem n).1 c with rfl|c
  ·exact⟨u,.inl rfl,trivial⟩
  ·exact hc.2 n c
 ·rw[iI,iI,Fo.to_of]
  constructor
  ·rintro⟨n,c,r,e,q⟩
   rcases(mem n).1 c with rfl|c
   ·rcases q with⟨rfl,f⟩|f
    ·exact .inl ⟨by rw[e];exact bI _,(bC.inj f).symm⟩
    ·exact f.elim
   ·right
    refine⟨fun y=>?_,n,c,r,e,q⟩
    have z:hd k=hd n.1:=by rw[←y,e,rh (hc.2 n c).1]
    obtain⟨j,d,s⟩:=eC c;rcases Nat.lt_or_ge j i with o|o
    ·have:=hi j d o;rw[s]at this;omega
    ·have:=g j d o;rw[s]at this;omega
  ·rintro(⟨rfl,rfl⟩|⟨_,n,c,h⟩)
   ·exact⟨(k',some w,.nil),(mem _).2 (.inl rfl),[],(bI _).symm,.inl ⟨rfl,rfl⟩⟩
   ·exact⟨n,(mem _).2 (.inr c),h⟩
theorem rU{α:Type}{l:List α}{i:Nat}(hi:i<l.length){a x:α}(nd:∀j (c:j<l.length),j≠i→l[j]≠l[i]):x∈l.set i a↔x=a∨(x∈l∧x≠l[i]):=by
 constructor
 ·intro h
  obtain⟨j,c,e⟩:=eC h;rw[mB]at c;rw[List.getElem_set]at e;split at e
  ·exact .inl e.symm
  ·rename_i b
   exact .inr ⟨by rw[←e];exact aU c,by rw[←e];exact nd j c fun e=>b e.symm⟩
 ·rintro(rfl|⟨h,b⟩)
  ·exact List.mem_of_getElem (i:=i) (h:=by simpa using hi) (by simp)
  ·obtain⟨j,c,e⟩:=eC h
   have:i≠j:=by rintro rfl;exact b e.symm
   exact List.mem_of_getElem (i:=j) (h:=by simpa using c) (by rw[List.getElem_set_ne this];exact e)
theorem RH{F:Fo}{i:Nat}{m:Bn}(h:gf F)(hi:i<F.toL.length)(hm:NZ m)(e:hd m.1=hd F.toL[i].1):gf (.ofL (F.toL.set i m)):=by
 have hc:=gJ.1 h;rw[gJ,Fo.to_of];refine⟨?_,fun n f=>?_⟩
 ·rw[ey]at hc⊢
  intro a b d hb c;rw[mB]at d hb;rw[List.getElem_set,List.getElem_set];split
  ·rename_i ea;subst ea
   rw[if_neg (by omega),e];exact hc.1 _ _ d hb c
  ·split
   ·rename_i eb;subst eb
    rw[e];exact hc.1 _ _ d hb c
   ·exact hc.1 _ _ d hb c
 ·rcases List.mem_or_eq_of_mem_set f with f|rfl
  ·exact hc.2 n f
  ·exact hm
theorem Gz{F:Fo}(h:gf F){i:Nat}(hi:i<F.toL.length)(j:Nat)(c:j<F.toL.length)(b:j≠i):F.toL[j]≠F.toL[i]:=by
 have hc:=(gJ.1 h).1;rw[ey]at hc;intro e;rcases Nat.lt_or_gt_of_ne b with a|a
 ·have:=hc j i c hi a;rw[e]at this;omega
 ·have:=hc i j hi c a;rw[e]at this;omega
theorem H2{F:Fo}{i:Nat}{m:Bn}{k:List UInt8}{v:ByteArray}(h:gf F)(hi:i<F.toL.length)(ek:hd F.toL[i].1=hd k)(g:tl (yL F.toL[i]) (yL m) k v):tl (vd F) (vd (.ofL (F.toL.set i m))) k v:=by
 intro k' d;have hc:=gJ.1 h;rw[iI,iI,Fo.to_of];constructor
 ·rintro⟨n,a,c⟩
  rcases(rU hi (Gz h hi)).1 a with rfl|⟨a,f⟩
  ·rcases(g k' d).1 c with b|⟨b,j⟩
   ·exact .inl b
   ·exact .inr ⟨b,_,aU hi,j⟩
  ·refine .inr ⟨fun e=>f ?_,n,a,c⟩
   obtain⟨r,o,_⟩:=c;refine GV h a (aU hi) ?_;rw[ek,←e,o,rh (hc.2 n a).1]
 ·rintro(b|⟨b,n,a,c⟩)
  ·exact⟨m,(rU hi (Gz h hi)).2 (.inl rfl),(g k' d).2 (.inl b)⟩
  ·by_cases e:n=F.toL[i]
   ·exact⟨m,(rU hi (Gz h hi)).2 (.inl rfl),(g k' d).2 (.inr ⟨b,by rw[←e];exact c⟩)⟩
   ·exact⟨n,(rU hi (Gz h hi)).2 (.inr ⟨a,e⟩),c⟩
theorem Nc{lab r:List UInt8}{w f:Option ByteArray}{F F':Fo}{v:ByteArray}(h:tl (wz w F) (wz f F') r v):tl (yL (lab,w,F)) (yL (lab,f,F')) (lab++r) v:=by
 intro k' a;constructor
 ·rintro⟨s,e,d⟩
  rcases(h s a).1 d with⟨rfl,rfl⟩|⟨c,g⟩
  ·exact .inl ⟨e,rfl⟩
  ·exact .inr ⟨fun b=>c (gv (e.symm.trans b)),s,e,g⟩
 ·rintro(⟨rfl,rfl⟩|⟨c,s,e,d⟩)
  ·exact⟨r,rfl,(h r a).2 (.inl ⟨rfl,rfl⟩)⟩
  ·exact⟨s,e,(h s a).2 (.inr ⟨fun b=>c (by rw[e,b]),d⟩)⟩
def cm:List UInt8→List UInt8→Nat
 |a::x,b::y=>if a=b then cm x y+1 else 0
 |_,_=>0
theorem My:∀(x y:List UInt8),cm x y≤x.length∧cm x y≤y.length
 | [],_=>by simp[cm]
 |_::_,[]=>by simp[cm]
 |a::x,b::y=>by unfold cm;have:=My x y;split<;>simp<;>omega
theorem Mw:∀(x y:List UInt8),x.take (cm x y)=y.take (cm x y)
 | [],_=>by simp[cm]
 |_::_,[]=>by simp[cm]
 |a::x,b::y=>by
  unfold cm;split
  ·rename_i e;rw[dz,dz,Mw x y,e]
  ·simp
theorem GU:∀(x y:List UInt8),cm x y<x.length→cm x y<y.length→hd (x.drop (cm x y))≠hd (y.drop (cm x y))
 | [],_=>by simp[cm]
 |_::_,[]=>by simp[cm]
 |a::x,b::y=>by
  unfold cm;split
  ·rename_i e
   intro d c;rw[List.length_cons]at d c;rw[l3,l3];exact GU x y (by omega) (by omega)
  ·rename_i e
   intro _ _ h;exact e (jQ.1 h)
theorem PP{x y:List UInt8}(hx:x≠[])(c:y≠[])(h:hd x=hd y):0<cm x y:=by
 match x,y,hx,c with
 |a::x,b::y,_,_=>
  unfold cm;rw[if_pos (show a=b from jQ.1 h)]
  omega
theorem Nu{lab:List UInt8}{w:Option ByteArray}{F:Fo}(c:Nat):∀k v,yL (lab.take c,none,.cons (lab.drop c) w F .nil) k v↔yL (lab,w,F) k v:=by
 intro k v;constructor
 ·rintro⟨r,e,⟨_,h⟩|(⟨s,rfl,h⟩|h)⟩
  ·cases h
  ·exact⟨s,by rw[e];simp only;rw[←ao,aM],h⟩
  ·exact h.elim
 ·rintro⟨s,e,h⟩
  exact⟨lab.drop c++s,by rw[e];simp only;rw[←ao,aM],.inr (.inl ⟨s,rfl,h⟩)⟩
theorem PV{lab r:List UInt8}{w f:Option ByteArray}{F F':Fo}{v:ByteArray}(b:lab≠[])(hb:w.isSome∨2≤F.toL.length)(j:gf F)(a:r≠[]→hd r≠hd lab)(h:tl (wz none (.cons lab w F .nil)) (wz f F') r v):Br (wz f F'):=by
 by_cases e:r= []
 ·subst e
  exact .inl ⟨v,(h [] v).2 (.inl ⟨rfl,rfl⟩)⟩
 ·have hc:gf (.cons lab w F .nil):=⟨b,hb,j,fun n i=>by simp[Fo.toL]at i,trivial⟩
  obtain⟨s,u,g⟩:=pB hc _ (au ..);simp only at g;have d:hd (lab++s)=hd lab:=rh b;refine .inr ⟨r,lab++s,v,u,(h r v).2 (.inl ⟨rfl,rfl⟩),(h _ u).2 (.inr ⟨fun c=>a e (by rw[←c,d]),.inr (.inl ⟨s,rfl,g⟩)⟩),e,fun c=>b (List.append_eq_nil_iff.1 c).1,by rw[d];exact a e⟩
theorem RJ{P d:List UInt8→ByteArray→Prop}{k:List UInt8}{v:ByteArray}(hb:Br P)(h:tl P d k v):Br d:=by
 have keep:∀j u,P j u→∃c,d j c:=fun j u f=>by
  by_cases e:j=k
  ·exact⟨v,(h j v).2 (.inl ⟨e,rfl⟩)⟩
  ·exact⟨u,(h j u).2 (.inr ⟨e,f⟩)⟩
 rcases hb with⟨u,m⟩|⟨j,k',u,c,f,g,r⟩
 ·obtain⟨c,h'⟩:=keep [] u m
  exact .inl ⟨c,h'⟩
 ·obtain⟨a,i⟩:=keep j u f
  obtain⟨b,hb⟩:=keep k' c g;exact .inr ⟨j,k',a,b,i,hb,r⟩
end Go.Proofs
namespace Go.Proofs
open Go.Lift
theorem tH{β:Type}{g:Nat→Option β}{i:Nat}(h:g i=none):upd g i none=g:=by
 funext j;unfold upd;split
 ·rename_i e;rw[e,h]
 ·rfl
theorem dQ{h:ac}{b:Nat}{c:Array Value}{t:TypeId}{i:Nat}(hb:h[b]? =some (.cells c t (0,0))):aX h ⟨b,0+i,none⟩=c[i]?:=by rw[aA];exact aL hb
theorem Rb{h:ac}{b:Nat}{c:Array Value}{t:TypeId}{i:Nat}(hb:h[b]? =some (.cells c t (0,0))) (hi:i<c.size):Wr h ⟨b,0+i,none⟩:=by rw[aA];exact f6 hb hi
theorem Gy{h:ac}{b:Nat}{c c':Array Value}{t:TypeId}{i:Nat}{v:Value}{k:ac→Prop}(hb:h[b]? =some (.cells c t (0,0))) (e:c.setIfInBounds i v=c')
 (f:∀h',h'[b]? =some (.cells c' t (0,0))→Upd (· =b) h h'→k h'):At (hset h ⟨b,i,none⟩ v) k:=yv hb fun h' a d=>f h' (e▸a) d
theorem Mn{M:Nat→Prop}{h:ac}{b d n:Nat}{sp sk:SliceV}{s:Slots}{ow:Option Addr}(o:OwnN M h b d n sp sk s ow){i:Nat}(hi:i<32){K:Unit→ac→Prop}
  (V:∀h' C G sp' sk',OwnN M h' b C G sp' sk' ⟨upd s.p i none,upd s.k i none⟩ ow→Upd M h h'→K () h'):HC PG kf [.pointer (some ⟨b,0,none⟩),.int .i64 i] [] K h:=by
 obtain⟨A,B,T,U,a,m⟩:=o.ex;have bits:=o.bits;refine zN _ i ?_;unfold sG ci bj c9 mD Oo;have W:∀k:Nat,k≤100→IntKind.wrap .i64 ((k:Int)+1)=((k+1:Nat):Int):=fun k V=>by rw[kE (by omega)];omega
 have hc1:=yr i d;have hc2:=yr i n;have H:∀x,A x→M x∨h.size≤x:=fun x hx=>.inl (a x hx).1
 refine Join.intro (fun _ h'=>∃sp',h'[b]? =some (.cells (eZ d n sp' sk false ow) bo (0,0))∧OwnS il 2 ar A h' sp' (fm (upd s.p i none) 32)∧OwnS qL 1 bH B h' sk (fm s.k 32)∧Upd M h h') (fun R E=>?_) ?_
 ·refine⟨_,rfl,_,dQ (i:=0) o.blk,AN bits.d32 hi ?_⟩
  rw[bits.dp i hi];cases hp:s.p i with
  |none=>exact ah.2 (E _ _ ⟨sp,o.blk,by rw[tH hp];exact T,U,Upd.refl _ _⟩)
  |some y=>
   refine ay.2 ⟨_,rfl,_,dQ (i:=0) o.blk,pd bits.d32 hi ⟨_,rfl,sp,dQ (i:=2) o.blk,?_⟩⟩;rw[W _ (by omega)];refine KZ T (FG hi bits.dp hp) (by have:=BI (g:=s.p);omega) fun F X t f=>?_
   rw[←PB hi bits.dp hp]at t;have b2:=f.get o.blk fun hb=>(a b hb).2.2.1 rfl
   refine⟨_,rfl,Rb (i:=2) b2 (show 2<6 by decide),Gy (i:=2) (c':=eZ d n F sk false ow) b2 rfl fun Y b3 j=>?_⟩
   refine E _ _ ⟨F,b3,t.upd j fun x hx e=>(a x hx).2.2.1 e,(U.upd f fun x hx P=>(a x P).2.1 hx).upd j fun x hx e=>(m x hx).2.1 e,(f.mono H).tr (j.mono fun x e=>.inl (e▸o.mb))⟩
 rintro _ h1 ⟨q,b1,w,v,D⟩;refine Join.intro (fun _ h'=>∃sk',h'[b]? =some (.cells (eZ d n q sk' false ow) bo (0,0))∧OwnS il 2 ar A h' q (fm (upd s.p i none) 32)∧OwnS qL 1 bH B h' sk' (fm (upd s.k i none) 32)∧Upd M h1 h') (fun R E=>?_) ?_
 ·refine⟨_,rfl,_,dQ (i:=1) b1,AN bits.n32 hi ?_⟩
  rw[bits.nk i hi];cases hp:s.k i with
  |none=>exact ah.2 (E _ _ ⟨sk,b1,w,by rw[tH hp];exact v,Upd.refl _ _⟩)
  |some y=>
   refine ay.2 ⟨_,rfl,_,dQ (i:=1) b1,pd bits.n32 hi ⟨_,rfl,sk,dQ (i:=3) b1,?_⟩⟩;rw[W _ (by omega)];refine K2 v (FG hi bits.nk hp) (by have:=BI (g:=s.k);omega) fun F X t f=>?_
   rw[←PB hi bits.nk hp]at t;have b2:=f.get b1 fun hb=>(m b hb).2.1 rfl
   refine⟨_,rfl,Rb (i:=3) b2 (show 3<6 by decide),Gy (i:=3) (c':=eZ d n q F false ow) b2 rfl fun Y b3 j=>?_⟩
   refine E _ _ ⟨F,b3,(w.upd f fun x hx P=>(a x hx).2.1 P).upd j fun x hx e=>(a x hx).2.2.1 e,t.upd j fun x hx e=>(m x hx).2.1 e,(f.mono fun x hx=>.inl (m x hx).1).tr (j.mono fun x e=>.inl (e▸o.mb))⟩
 rintro _ X ⟨u,b2,N,Q,f⟩;refine⟨_,rfl,_,dQ (i:=0) b2,_,rfl,_,dQ (i:=1) b2,?_⟩;refine CJ bits.d32 hi fun C S I=>⟨dQ (i:=1) b2,?_⟩
 refine CJ bits.n32 hi fun G J O=>?_
 refine⟨_,rfl,Rb (i:=0) b2 (show 0<6 by decide),Gy (i:=0) (c':=eZ C n q u false ow) b2 rfl fun Y b3 j=>?_⟩
 refine⟨_,rfl,Rb (i:=1) b3 (show 1<6 by decide),Gy (i:=1) (c':=eZ C G q u false ow) b3 rfl fun Z b4 L=>?_⟩
 have p:=j.tr L;have z:=(D.tr (f.tr (p.mono (M':=M) fun x e=>.inl (e▸o.mb)))).size
 refine V Z C G q u ⟨b4,⟨S,J,fun c hc=>?_,fun c hc=>?_⟩,⟨A,B,N.upd p fun x hx e=>(a x hx).2.2.1 e,Q.upd p fun x hx e=>(m x hx).2.1 e,fun x hx=>⟨(a x hx).1,(a x hx).2.1,(a x hx).2.2.1,by have:=(a x hx).2.2.2;omega⟩,fun x hx=>⟨(m x hx).1,(m x hx).2.1,by have:=(m x hx).2.2;omega⟩⟩,o.mb⟩ (D.tr (f.tr (p.mono fun x e=>.inl (e▸o.mb))))
 ·rw[I,bits.dp c hc];simp only[upd];split<;>simp[*]
 ·rw[O,bits.nk c hc];simp only[upd];split<;>simp[*]
end Go.Proofs
namespace Go.Proofs
open Go.Lift
theorem OwnS.setAt{α:Type}{f:α→List Value}{c:Nat}{t:TypeId}{M:Nat→Prop}{h:ac}{s:SliceV}{xs:List α}(m:OwnS f c t M h s xs){k:Nat}(o:k<xs.length)(x:α):
  ∃a,s.a=some a∧M a.block∧uj h (some (adr a (k*c))) 0 (f x)∧OwnS f c t M (iJ h (adr a (k*c)) 0 (f x)) s (xs.take k++x::xs.drop (k+1))∧Upd (· =a.block) h (iJ h (adr a (k*c)) 0 (f x)):=by
 have i:∀x,(f x).length=c∧0<c:=m.ne;have q:=m.len;have g:=m.cap;rcases m.blk with E|⟨b,e,v,hb,hc,y⟩
 ·omega
 have p:((xs.take k).flatMap f).length=k*c:=by rw[ko i,aJ,bf (by omega)]
 have z:xs.flatMap f=(xs.take k).flatMap f++(f xs[k]++(xs.drop (k+1)).flatMap f):=by
  rw[←aK,←List.drop_eq_getElem_cons o];exact yq xs k
 rw[z]at hc;have w:=(i xs[k]).1;have C:=(i x).1;have d:(xs.take k++x::xs.drop (k+1)).flatMap f=(xs.take k).flatMap f++(f x++(xs.drop (k+1)).flatMap f):=by rw[List.flatMap_append,aK]
 generalize (xs.take k).flatMap f=A at p hc d;generalize (xs.drop (k+1)).flatMap f=B at hc d;generalize f xs[k]=X at w hc;have u:k*c+0+(f x).length≤(A++(X++B)++e).length:=by simp only[ae];omega
 have n:adr ⟨b,0,none⟩ (k*c)=⟨b,k*c,none⟩:=by rw[bB,aA]
 refine⟨⟨b,0,none⟩,v,hb,?_,?_,?_⟩
 ·rw[n]
  refine .inr ⟨_,rfl,fun j D=>?_⟩
  rw[bB];exact f6 hc (by rw[List.size_toArray];omega)
 ·rw[n,gj (f x) h 0 (k*c) _ hc u]
  refine⟨by simp;omega,i,g,.inr ⟨b,e,v,hb,?_,?_⟩⟩
  ·rw[gg hc,d]
   congr 3
   rw[Nat.add_zero,ao A,List.take_left' p,←List.drop_drop,cn p,ao X,cn (by omega)];simp only[ao]
  ·exact y
 ·rw[n,gj (f x) h 0 (k*c) _ hc u]
  exact Upd.set h _ rfl
theorem OwnN.node{M W:Nat→Prop}{h:ac}{b d n:Nat}{sp sk:SliceV}{s:Slots}{ow:Option Addr}(o:OwnN M h b d n sp sk s ow)(a:∀x,M x→¬W x):NodeAt W h b s:=by
 obtain⟨A,B,e,c,g,f⟩:=o.ex;exact⟨⟨d,n,sp,sk,ow,o.blk,o.bits,e.sl fun x hx _=>a _ (g x hx).1,c.sl fun x hx _=>a _ (f x hx).1,e.cap,c.cap⟩,a _ o.mb⟩
theorem Im{W:Nat→Prop}{h:ac}{b:Nat}{s:Slots}(nd:NodeAt W h b s){i:Nat}(hi:i<32){K:Bool→ac→Prop}(a:K true h):HC PG kg [.pointer (some ⟨b,0,none⟩),.int .i64 i] [.c .bool] K h:=by
 obtain⟨d,n,sp,sk,ow,hb,_⟩:=nd.ex;refine zO _ i ?_;unfold sH eY;refine ay.2 ⟨_,rfl,_,dQ (i:=4) hb,ay.2 ?_⟩;refine aw (fun _=>?_) fun h=>absurd (Int.natCast_nonneg i) h
 rw[decide_eq_true (by omega)];exact a
theorem LP{β:Type}{g:Nat→Option β}{i:Nat}{x y:Option β}:upd (upd g i x) i y=upd g i y:=by
 funext j;unfold upd;split<;>rfl
theorem kF{β:Type}{g:Nat→Option β}{i:Nat}{x:Option β}:upd g i x i=x:=by simp[upd]
theorem uo{W:Nat→Prop}{h:ac}{b:Nat}{s:Slots}(nd:NodeAt W h b s)(hW:∀x,W x→x<h.size){i:Nat}(hi:i<32)(hx:∀y,s.p i=some y→s.k i=none)(p:Pr){K:Option Addr→ac→Prop}
  (hk:∀h' b',NodeAt W h' b' ⟨upd s.p i (some p),upd s.k i none⟩→Upd No h h'→K (some ⟨b',0,none⟩) h'):
  HC PG fz [.pointer (some ⟨b,0,none⟩),.pointer none,.int .i64 i,.agg #[.string p.1,.string p.2]] [.c .ptr] K h:=by
 refine xi _ none i p ?_;unfold qC cx ci bj Bo aC c9 BB pq p6 mD vq;have k1:=Upd.hnew No h [.string p.1,.string p.2] ar;have b1:=bG h [.string p.1,.string p.2] ar;refine bq ?_;simp only[bZ h];generalize hnew h [.string p.1,.string p.2] ar=h1 at k1 b1;have z1:=bF b1;have P:=nd.upd k1 fun _ h=>h.elim
 refine Im P hi (ah.2 ?_);refine Pd P fun h2 d n sp sk o H=>?_
 have bits:=o.bits;obtain⟨A,B,hA,hB,q,I⟩:=o.ex;have F:=k1.tr H;have u:=H.get0 b1;have X:∀x,h1.size≤x→¬W x:=fun x hx O=>by have:=hW x O;omega
 refine⟨_,rfl,_,dQ (i:=0) o.blk,AN bits.d32 hi ?_⟩;rw[bits.dp i hi];cases hp:s.p i with
 |some y=>
  refine ay.2 ⟨_,rfl,sp,dQ (i:=2) o.blk,_,rfl,_,dQ (i:=0) o.blk,p.1,by rw[bB,aL u];rfl,p.2,by rw[bB,aL u];rfl,?_⟩
  refine pd bits.d32 hi ⟨⟨by rw[bB,aL u];rfl,by rw[bB,aL u];rfl⟩,dQ (i:=2) o.blk,?_⟩
  have hlt:=FG hi bits.dp hp;obtain⟨a,ha,L,O,Z,m⟩:=OwnS.setAt hA hlt p;have hlen:=hA.len;refine⟨by omega,a,ha,?_⟩;rw[aF];refine⟨O,bq ?_⟩;rw[←Pz hi bits.dp hp]at Z;have ob:=m.get o.blk fun e=>(q _ L).2.2.1 e.symm
  have z3:=m.size;have v:OwnN (fun x=>h1.size≤x) _ h1.size d n sp sk ⟨upd s.p i (some p),upd s.k i none⟩ none:=⟨ob,⟨bits.d32,bits.n32,fun c hc=>by
    rw[bits.dp c hc];simp only[upd];split
    ·rename_i e;rw[e,hp];rfl
    ·rfl,fun c hc=>by rw[bits.nk c hc,tH (hx y hp)]⟩,
   ⟨A,B,Z,by rw[tH (hx y hp)];exact hB.upd m fun x hx e=>(q _ L).2.1 (e▸hx),fun x hx=>⟨(q x hx).1,(q x hx).2.1,(q x hx).2.2.1,by have:=(q x hx).2.2.2;omega⟩,fun x hx=>⟨(I x hx).1,(I x hx).2.1,by have:=(I x hx).2.2;omega⟩⟩,o.mb⟩
  refine hk _ _ (v.node X) (F.trans m fun x hx=>.inr ?_)
  have:=(q _ L).1;have hx:x=a.block:=hx;omega
 |none=>
  refine ah.2 ⟨_,rfl,Mn o hi fun D d3 n3 z G v m=>?_⟩
  have f:=v.bits;obtain⟨A3,B3,hA3,hB3,j,k⟩:=v.ex;have z2:=H.size;have z3:=m.size;have E:=m.get u (show ¬h1.size≤h.size by omega)
  have hu03:Upd No h D:=F.trans m fun x hx=>.inr (Nat.le_trans (Nat.le_of_lt z1) hx)
  refine⟨_,rfl,z,dQ (i:=2) v.blk,_,rfl,_,dQ (i:=0) v.blk,p.1,by rw[bB,aL E];rfl,p.2,by rw[bB,aL E];rfl,?_⟩
  have V:=Upd.hnew No D [.string p.1,.string p.2] ar;have b4:=bG D [.string p.1,.string p.2] ar;have z4:=eI D [.string p.1,.string p.2] ar;have N:=v.upd V fun _ h=>h.elim
  have S:HC PG cB [.slice z.a z.len z.cap,.int .i64 (ui i d3),.slice (some (aH D)) 1 1] [.c .slice] (fun(J:SliceV) Y=>
       ∃a34:Addr,some (⟨h1.size,0,none⟩:Addr)=some a34∧
       (Wr Y (adr (adr a34 0) 2)∧
        At (hset Y (adr (adr a34 0) 2) (.slice J.a J.len J.cap)) (fun R=>
         ∃a36:Addr,some (⟨h1.size,0,none⟩:Addr)=some a36∧
         ∃v37:Int,aX R (adr (adr a36 0) 0)=some (.int .u32 v37)∧
         HC PG eE [.int .u32 v37,.int .i64 i] [.c (.int .u32)] (fun(e38:Int) U=>
          ∃a40:Addr,some (⟨h1.size,0,none⟩:Addr)=some a40∧
          (Wr U (adr (adr a40 0) 0)∧
           At (hset U (adr (adr a40 0) 0) (.int .u32 e38)) (fun h41=>
            K (some ⟨h1.size,0,none⟩) h41))) R))) (hnew D [.string p.1,.string p.2] ar):=by
   generalize hnew D [.string p.1,.string p.2] ar=h4 at V b4 z4 N;rw[bZ D];have hA4:=(hA3.upd V fun _ _ h=>h).more (M':=fun x=>A3 x∨h4.size≤x) fun x hx=>.inl hx
   have hpn:(⟨upd s.p i none,upd s.k i none⟩:Slots).p i=none:=kF;refine KI hA4 (Sc hi f.dp) (by have:=BI (g:=(⟨upd s.p i none,upd s.k i none⟩:Slots).p);omega) (x:=p) b4 (fun e=>e.elim (fun e=>by have:=(j _ e).2.2.2;omega) fun e=>by omega) (fun x hx=>.inr hx) fun s5 h5 Q C=>?_
   rw[←PA hi f.dp hpn p]at Q;have hbl:h1.size<D.size:=bF v.blk;have b5:=C.get N.blk fun e=>e.elim (fun e=>(j _ e).2.2.1 rfl) fun e=>by omega
   refine⟨_,rfl,Rb (i:=2) b5 (show 2<6 by decide),Gy (i:=2) (c':=eZ d3 n3 s5 G false none) b5 rfl fun h6 b6 hu6=>?_⟩
   refine⟨_,rfl,_,dQ (i:=0) b6,LN f.d32 hi fun w O hwt=>?_⟩
   refine⟨_,rfl,Rb (i:=0) b6 (show 0<6 by decide),Gy (i:=0) (c':=eZ w n3 s5 G false none) b6 rfl fun h7 b7 hu7=>?_⟩
   have t:=hu6.tr hu7;have z5:=C.size;have z7:=t.size;have T:=Q.within;have e1:(⟨upd (⟨upd s.p i none,upd s.k i none⟩:Slots).p i (some p),upd s.k i none⟩:Slots)=⟨upd s.p i (some p),upd s.k i none⟩:=by rw[LP]
   have o7:OwnN (fun x=>h1.size≤x) h7 h1.size w n3 s5 G ⟨upd s.p i (some p),upd s.k i none⟩ none:=by
    rw[←e1];refine⟨b7,⟨O,f.n32,fun c hc=>?_,f.nk⟩,⟨fun x=>(A3 x∨h4.size≤x)∧x<h5.size,B3,T.upd t fun x hx e=>?_,((hB3.upd V fun _ _ h=>h).upd C fun x hx e=>?_).upd t fun x hx e=>(k x hx).2.1 e,fun x hx=>⟨?_,?_,?_,by omega⟩,fun x hx=>⟨(k x hx).1,(k x hx).2.1,by have:=(k x hx).2.2;omega⟩⟩,o.mb⟩
    ·rw[hwt,f.dp c hc];simp only[upd];split<;>simp[*]
    ·have e:x=h1.size:=e
     rcases hx.1 with h|h
     ·exact(j x h).2.2.1 e
     ·omega
    ·rcases e with e|e
     ·exact(j x e).2.1 hx
     ·have:=(k x hx).2.2;omega
    ·rcases hx.1 with h|h
     ·exact(j x h).1
     ·omega
    ·rcases hx.1 with h|h
     ·exact(j x h).2.1
     ·exact fun hb=>by have:=(k x hb).2.2;omega
    ·rcases hx.1 with h|h
     ·exact(j x h).2.2.1
     ·omega
   refine hk _ _ (o7.node X) (((hu03.tr V).trans C fun x hx=>.inr ?_).trans t fun x hx=>.inr ?_)
   ·rcases hx with h|h
    ·have:=(j x h).1;omega
    ·omega
   ·have hx:x=h1.size:=hx
    omega
  refine⟨pd f.d32 hi ⟨⟨by rw[bB,aL E];rfl,by rw[bB,aL E];rfl⟩,dQ (i:=2) v.blk,bq ⟨dQ (i:=2) N.blk,S⟩⟩,bq ⟨dQ (i:=0) N.blk,dQ (i:=2) N.blk,pd f.d32 hi ⟨dQ (i:=2) N.blk,S⟩⟩⟩
end Go.Proofs
namespace Go.Proofs
open Go.Lift
theorem Az{W:Nat→Prop}{h:ac}{b:Nat}{s:Slots}(nd:NodeAt W h b s)(hW:∀x,W x→x<h.size){i:Nat}(hi:i<32)(hx:∀y,s.k i=some y→s.p i=none)(kid:Addr){K:Option Addr→ac→Prop}
  (hk:∀h' b',NodeAt W h' b' ⟨upd s.p i none,upd s.k i (some (some kid))⟩→Upd No h h'→K (some ⟨b',0,none⟩) h'):
  HC PG hE [.pointer (some ⟨b,0,none⟩),.pointer none,.int .i64 i,.pointer (some kid)] [.c .ptr] K h:=by
 refine yD _ none i (some kid) ?_;unfold rG cx ci bj Bo c9 p6 Oq mD;refine ah.2 ?_;refine Im nd hi (ah.2 ?_);refine Pd nd fun h2 d n sp sk o E=>?_
 have bits:=o.bits;obtain⟨A,B,hA,hB,t,q⟩:=o.ex;have R:∀x,h.size≤x→¬W x:=fun x hx v=>by have:=hW x v;omega
 refine⟨_,rfl,_,dQ (i:=1) o.blk,AN bits.n32 hi ?_⟩;rw[bits.nk i hi];cases hp:s.k i with
 |some y=>
  refine ay.2 ⟨_,rfl,sk,dQ (i:=3) o.blk,_,rfl,_,dQ (i:=1) o.blk,?_⟩;refine pd bits.n32 hi ⟨dQ (i:=3) o.blk,?_⟩;have V:=FG hi bits.nk hp;obtain⟨a,ha,H,v,T,m⟩:=OwnS.setAt hB V (some kid);have hlen:=hB.len;refine⟨by omega,a,ha,?_⟩;rw[aF];have hw1:Wr h2 (adr a (ui i n*1)):=by
   rcases v with v|⟨b',hb',v⟩
   ·cases v
   ·cases hb';exact v 0 (by simp)
  refine⟨hw1,bq ?_⟩;rw[←Pz hi bits.nk hp]at T;have ob:=m.get o.blk fun e=>(q _ H).2.1 e.symm
  have z3:=m.size;have z:OwnN (fun x=>h.size≤x) _ h.size d n sp sk ⟨upd s.p i none,upd s.k i (some (some kid))⟩ none:=⟨ob,⟨bits.d32,bits.n32,fun c hc=>by rw[bits.dp c hc,tH (hx y hp)],fun c hc=>by
    rw[bits.nk c hc];simp only[upd];split
    ·rename_i e;rw[e,hp];rfl
    ·rfl⟩,
   ⟨A,B,by rw[tH (hx y hp)];exact hA.upd m fun x hx e=>(t _ hx).2.1 (e▸H),T,fun x hx=>⟨(t x hx).1,(t x hx).2.1,(t x hx).2.2.1,by have:=(t x hx).2.2.2;omega⟩,fun x hx=>⟨(q x hx).1,(q x hx).2.1,by have:=(q x hx).2.2;omega⟩⟩,o.mb⟩
  refine hk _ _ (z.node R) (E.trans m fun x hx=>.inr ?_)
  have:=(q _ H).1;have hx:x=a.block:=hx;omega
 |none=>
  refine ah.2 ⟨_,rfl,Mn o hi fun D Z n3 F u z m=>?_⟩
  have f:=z.bits;obtain⟨A3,B3,hA3,hB3,j,k⟩:=z.ex;have z2:=E.size;have z3:=m.size;have U:Upd No h D:=E.trans m fun x hx=>.inr hx
  refine⟨_,rfl,u,dQ (i:=3) z.blk,_,rfl,_,dQ (i:=1) z.blk,?_⟩;have Q:=Upd.hnew No D [.pointer (some kid)] bH;have b4:=bG D [.pointer (some kid)] bH;have z4:=eI D [.pointer (some kid)] bH;have I:=z.upd Q fun _ h=>h.elim
  have N:HC PG cj [.slice u.a u.len u.cap,.int .i64 (ui i n3),.slice (some (aH D)) 1 1] [.c .slice] (fun(G:SliceV) S=>
       ∃a34:Addr,some (⟨h.size,0,none⟩:Addr)=some a34∧
       (Wr S (adr (adr a34 0) 3)∧
        At (hset S (adr (adr a34 0) 3) (.slice G.a G.len G.cap)) (fun L=>
         ∃a36:Addr,some (⟨h.size,0,none⟩:Addr)=some a36∧
         ∃v37:Int,aX L (adr (adr a36 0) 1)=some (.int .u32 v37)∧
         HC PG eE [.int .u32 v37,.int .i64 i] [.c (.int .u32)] (fun(e38:Int) P=>
          ∃a40:Addr,some (⟨h.size,0,none⟩:Addr)=some a40∧
          (Wr P (adr (adr a40 0) 1)∧
           At (hset P (adr (adr a40 0) 1) (.int .u32 e38)) (fun h41=>
            K (some ⟨h.size,0,none⟩) h41))) L))) (hnew D [.pointer (some kid)] bH):=by
   generalize hnew D [.pointer (some kid)] bH=h4 at Q b4 z4 I;rw[bZ D];have Y:=(hB3.upd Q fun _ _ h=>h).more (M':=fun x=>B3 x∨h4.size≤x) fun x hx=>.inl hx
   have hpn:(⟨upd s.p i none,upd s.k i none⟩:Slots).k i=none:=kF;refine KJ Y (Sc hi f.nk) (by have:=BI (g:=(⟨upd s.p i none,upd s.k i none⟩:Slots).k);omega) (x:=some kid) b4 (fun e=>e.elim (fun e=>by have:=(k _ e).2.2;omega) fun e=>by omega) (fun x hx=>.inr hx) fun s5 h5 J C=>?_
   rw[←PA hi f.nk hpn (some kid)]at J;have hbl:h.size<D.size:=bF z.blk;have b5:=C.get I.blk fun e=>e.elim (fun e=>(k _ e).2.1 rfl) fun e=>by omega
   refine⟨_,rfl,Rb (i:=3) b5 (show 3<6 by decide),Gy (i:=3) (c':=eZ Z n3 F s5 false none) b5 rfl fun h6 X hu6=>?_⟩
   refine⟨_,rfl,_,dQ (i:=1) X,LN f.n32 hi fun w v hwt=>?_⟩
   refine⟨_,rfl,Rb (i:=1) X (show 1<6 by decide),Gy (i:=1) (c':=eZ Z w F s5 false none) X rfl fun h7 b7 hu7=>?_⟩
   have p:=hu6.tr hu7;have z5:=C.size;have z7:=p.size;have O:=J.within;have e1:(⟨upd s.p i none,upd (⟨upd s.p i none,upd s.k i none⟩:Slots).k i (some (some kid))⟩:Slots)=⟨upd s.p i none,upd s.k i (some (some kid))⟩:=by rw[LP]
   have o7:OwnN (fun x=>h.size≤x) h7 h.size Z w F s5 ⟨upd s.p i none,upd s.k i (some (some kid))⟩ none:=by
    rw[←e1];refine⟨b7,⟨f.d32,v,f.dp,fun c hc=>?_⟩,⟨A3,fun x=>(B3 x∨h4.size≤x)∧x<h5.size,((hA3.upd Q fun _ _ h=>h).upd C fun x hx e=>?_).upd p fun x hx e=>(j x hx).2.2.1 e,O.upd p fun x hx e=>?_,fun x hx=>⟨(j x hx).1,?_,(j x hx).2.2.1,by have:=(j x hx).2.2.2;omega⟩,fun x hx=>⟨?_,?_,by omega⟩⟩,o.mb⟩
    ·rw[hwt,f.nk c hc];simp only[upd];split<;>simp[*]
    ·rcases e with e|e
     ·exact(j x hx).2.1 e
     ·have:=(j x hx).2.2.2;omega
    ·have e:x=h.size:=e
     rcases hx.1 with h|h
     ·exact(k x h).2.1 e
     ·omega
    ·rintro⟨h|h,_⟩
     ·exact(j x hx).2.1 h
     ·have:=(j x hx).2.2.2;omega
    ·rcases hx.1 with h|h
     ·exact(k x h).1
     ·omega
    ·rcases hx.1 with h|h
     ·exact(k x h).2.1
     ·omega
   refine hk _ _ (o7.node R) (((U.tr Q).trans C fun x hx=>.inr ?_).trans p fun x hx=>.inr ?_)
   ·rcases hx with h|h
    ·exact(k x h).1
    ·omega
   ·have hx:x=h.size:=hx
    omega
  refine⟨pd f.n32 hi ⟨dQ (i:=3) z.blk,bq ⟨dQ (i:=3) I.blk,N⟩⟩,bq ⟨dQ (i:=1) I.blk,dQ (i:=3) I.blk,pd f.n32 hi ⟨dQ (i:=3) I.blk,N⟩⟩⟩
end Go.Proofs
namespace Go.Proofs
open Go.Lift
theorem Mp{h:ac}{b d n:Nat}{sp sk:SliceV}{a:Bool}{ow:Option Addr}(hb:h[b]? =some (.cells (eZ d n sp sk a ow) bo (0,0))) {K:Int→ac→Prop} (c:K (d:Int) h):HC PG ly [.pointer (some ⟨b,0,none⟩)] [.c (.int .u32)] K h:=by
 refine Bg _ ?_;unfold ud ci;exact ah.2 ⟨_,rfl,_,dQ (i:=0) hb,c⟩
theorem Ia{h:ac}{b d n:Nat}{sp sk:SliceV}{a:Bool}{ow:Option Addr}(hb:h[b]? =some (.cells (eZ d n sp sk a ow) bo (0,0))) {K:Int→ac→Prop} (c:K (n:Int) h):HC PG kh [.pointer (some ⟨b,0,none⟩)] [.c (.int .u32)] K h:=by
 refine zQ _ ?_;unfold sJ ci;exact ah.2 ⟨_,rfl,_,dQ (i:=1) hb,c⟩
theorem pA{h:ac}{b d n:Nat}{sp sk:SliceV}{a:Bool}{ow:Option Addr}(hb:h[b]? =some (.cells (eZ d n sp sk a ow) bo (0,0))) {K:Bool→ac→Prop} (c:K a h):HC PG ga [.pointer (some ⟨b,0,none⟩)] [.c .bool] K h:=by
 refine wC _ ?_;unfold pT eY;exact ay.2 ⟨_,rfl,_,dQ (i:=4) hb,c⟩
def Cd(o:Option Pr):Pr:=o.getD (⟨#[]⟩,⟨#[]⟩)
theorem L6{h:ac}{b:Nat}{q p:Pr}(hb:h[b]? =some (.cells #[.string q.1,.string q.2] ar (0,0))) {k:ac→Prop}
  (c:∀h',h'[b]? =some (.cells #[.string p.1,.string p.2] ar (0,0))→Upd (· =b) h h'→k h'):uj h (some ⟨b,0,none⟩) 0 [.string p.1,.string p.2]∧At (iJ h ⟨b,0,none⟩ 0 [.string p.1,.string p.2]) k:=by
 have e:=gj [.string p.1,.string p.2] h 0 0 [.string q.1,.string q.2] hb (by simp);refine⟨.inr ⟨_,rfl,fun j a=>by rw[bB];exact f6 hb (by simp at a⊢;omega)⟩,bq ?_⟩
 rw[e];refine c _ ?_ (Upd.set h _ rfl);rw[gg hb];rfl
theorem Pk{W:Nat→Prop}{h:ac}{b:Nat}{s:Slots}(nd:NodeAt W h b s){i:Nat}(hi:i<32){K:Pr×Bool→ac→Prop}(k:∀h',Upd No h h'→K (Cd (s.p i),(s.p i).isSome) h'):
  HC PG oN [.pointer (some ⟨b,0,none⟩),.int .i64 i] [.agg [.str,.str],.c .bool] K h:=by
 refine Bf _ i ?_;unfold uc cx ci bj eB aC pq bK qT mD;obtain⟨d,n,sp,sk,ow,hb,bits,g,w,q,t⟩:=nd.ex;have k1:=Upd.hnew No h [.string (⟨#[]⟩:ByteArray),.string (⟨#[]⟩:ByteArray)] ar;have b1:=bG h [.string (⟨#[]⟩:ByteArray),.string (⟨#[]⟩:ByteArray)] ar;refine bq ?_;simp only[bZ h];generalize hnew h [.string (⟨#[]⟩:ByteArray),.string (⟨#[]⟩:ByteArray)] ar=h1 at k1 b1
 have c:=k1.get0 hb;have f:h1[h.size]? =some (.cells #[.string Qy.1,.string Qy.2] ar (0,0)):=b1;refine Mp c (AN bits.d32 hi ?_);rw[bits.dp i hi];cases hp:s.p i with
 |none=>
  rw[hp]at k;refine ay.2 (L6 (p:=Qy) f fun v b2 e=>⟨_,by rw[bB,aL b2];rfl,_,by rw[bB,aL b2];rfl,k _ (k1.trans e fun x hx=>.inr (dP hx.symm))⟩)
 |some y=>
  rw[hp]at k;refine ah.2 ⟨_,rfl,sp,dQ (i:=2) c,_,rfl,_,dQ (i:=0) c,pd bits.d32 hi ⟨dQ (i:=2) c,?_⟩⟩;have o:=FG hi bits.dp hp;have j:=g.upd k1 fun _ h=>h.elim
  obtain⟨a,u,_,hv⟩:=j.at (PC hi bits.dp hp);have m:=g.len;refine⟨by omega,a,u,y.1,hv 0 _ rfl,y.2,hv 1 _ rfl,?_⟩;refine L6 (p:=y) f fun v b2 e=>⟨_,by rw[bB,aL b2];rfl,_,by rw[bB,aL b2];rfl,k _ (k1.trans e fun x hx=>.inr (dP hx.symm))⟩
theorem Ri{W:Nat→Prop}{h:ac}{b:Nat}{s:Slots}(nd:NodeAt W h b s){i:Nat}(hi:i<32){K:Option Addr×Bool→ac→Prop}(e:K ((s.k i).getD none,(s.k i).isSome) h):
  HC PG qd [.pointer (some ⟨b,0,none⟩),.int .i64 i] [.c .ptr,.c .bool] K h:=by
 refine Ck _ i ?_;unfold vj aR cx ci bj mD;obtain⟨d,n,sp,sk,ow,hb,bits,o,c,g,j⟩:=nd.ex;refine Ia hb (AN bits.n32 hi ?_);rw[bits.nk i hi];cases hp:s.k i with
 |none=>rw[hp]at e;exact ay.2 e
 |some y=>
  rw[hp]at e;refine ah.2 ⟨_,rfl,sk,dQ (i:=3) hb,_,rfl,_,dQ (i:=1) hb,pd bits.n32 hi ⟨dQ (i:=3) hb,?_⟩⟩;have k:=FG hi bits.nk hp;obtain⟨a,m,_,hv⟩:=c.at (PC hi bits.nk hp);have f:=c.len;exact⟨by omega,a,m,y,hv 0 _ rfl,e⟩
theorem vK{W:Nat→Prop}{h:ac}{b d n:Nat}{sp sk:SliceV}{c:Bool}{ow:Option Addr}{l:List Pr}(hb:h[b]? =some (.cells (eZ d n sp sk c ow) bo (0,0))) (a:Sl il 2 W h sp l) (f:l.length≤1000000000) {K:SliceV→ac→Prop}
  (e:∀s' h',OwnS il 2 ar (fun x=>h.size≤x) h' s' l→Upd No h h'→K s' h'):HC PG gk [.pointer (some ⟨b,0,none⟩)] [.c .slice] K h:=by
 refine sr _ ?_;unfold nS bj;exact ah.2 ⟨_,rfl,sp,dQ (i:=2) hb,A0 a (by omega) e⟩
theorem GF{W:Nat→Prop}{h:ac}{b d n:Nat}{sp sk:SliceV}{c:Bool}{ow:Option Addr}{l:List (Option Addr)}(hb:h[b]? =some (.cells (eZ d n sp sk c ow) bo (0,0))) (a:Sl qL 1 W h sk l) (f:l.length≤1000000000) {K:SliceV→ac→Prop}
  (e:∀s' h',OwnS qL 1 bH (fun x=>h.size≤x) h' s' l→Upd No h h'→K s' h'):HC PG lx [.pointer (some ⟨b,0,none⟩)] [.c .slice] K h:=by
 refine tT _ ?_;unfold oV bj;exact ah.2 ⟨_,rfl,sk,dQ (i:=3) hb,A1 a (by omega) e⟩
structure BuckAt(W:Nat→Prop)(h:ac)(b:Nat)(l:List Pr):Prop where
 ex:∃sp sk ow,h[b]? =some (.cells (eZ 0 0 sp sk true ow) bo (0,0))∧Sl il 2 W h sp l∧Sl qL 1 W h sk []∧sp.len≤sp.cap∧sk.len≤sk.cap
 nw:¬W b
theorem BuckAt.upd{W M:Nat→Prop}{h h':ac}{b:Nat}{l:List Pr}(n:BuckAt W h b l)(k:Upd M h h')(hm:∀b,M b→W b∨h.size≤b):BuckAt W h' b l:=by
 obtain⟨sp,sk,ow,a,f,e,c,d⟩:=n.ex;exact⟨⟨sp,sk,ow,k.get a (fun hb=>(hm _ hb).elim n.nw fun h=>by have:=bF a;omega),f.upd k hm,e.upd k hm,c,d⟩,n.nw⟩
theorem SP{W:Nat→Prop}{h:ac}{b:Nat}{l:List Pr}(s:BuckAt W h b l)(p:dL l)(o:l.length≤1000000000)(k:ByteArray){K:ByteArray×Bool→ac→Prop}
  (i:∀h' v,Upd No h h'→(eK l k=true→(k,v)∈l)→(eK l k=false→v=⟨#[]⟩)→K (v,eK l k) h'):HC PG uK [.pointer (some ⟨b,0,none⟩),.string k] [.c .str,.c .bool] K h:=by
 refine Lw _ k ?_;unfold Es cx bK xQ;obtain⟨sp,sk,ow,hb,j,y,q,t⟩:=s.ex;refine vK hb j o fun w x m g=>?_
 have d:Sl il 2 No x w l:=m.sl fun _ _ _ h=>h
 refine Ml d p o k fun z c=>?_
 cases ht:eK l k with
 |false=>rw[ht]at i;exact ay.2 (i _ _ (g.tr c) (fun h=>by cases h) fun _=>rfl)
 |true=>
  rw[ht]at i;obtain⟨f,e⟩:=Kd p ht;obtain⟨a,u,_,hv⟩:=(d.upd c fun _ h=>h.elim).at (List.getElem?_eq_getElem f)
  have n:=d.len;refine ah.2 ⟨by simp only;omega,a,u,_,hv 1 _ rfl,i _ _ (g.tr c) (fun _=>?_) fun h=>by cases h⟩
  have:(k,l[pos l k].2)=l[pos l k]:=Prod.ext e.symm rfl;rw[this];exact aU f
theorem TW{W:Nat→Prop}{h:ac}{b:Nat}{l:List Pr}(d:BuckAt W h b l)(f:dL l)(c:l.length≤1000000000)(k:ByteArray){K:ByteArray×Bool→ac→Prop}
 (a:∀h' v,Upd No h h'→(eK l k=true→(k,v)∈l)→K (v,eK l k) h'):HC PG uK [.pointer (some ⟨b,0,none⟩),.string k] [.c .str,.c .bool] K h:=SP d f c k fun h' v g e _=>a h' v g e
end Go.Proofs
namespace Go.Proofs
open Go.Lift
set_option maxRecDepth 4000 in
theorem Q9{W:Nat→Prop}{h:ac}{b:Nat}{l:List Pr}(nd:BuckAt W h b l)(Y:l.length≤1000000000){K:Option Addr→ac→Prop}
  (y:∀h' sp sk,h'[h.size]? =some (.cells (eZ 0 0 sp sk true none) bo (0,0))→OwnS il 2 ar (fun x=>h.size<x∧x<h'.size) h' sp l→OwnS qL 1 bH (fun x=>h.size<x∧x<h'.size) h' sk []→Upd No h h'→K (some ⟨h.size,0,none⟩) h'):
  HC PG iA [.pointer (some ⟨b,0,none⟩),.pointer none] [.c .ptr] K h:=by
 obtain⟨sp,sk,ow,hb,A,u,P,Q⟩:=nd.ex;refine ve _ none ?_;unfold qj ci bw bj nv Bo c9 eY Og Sg;refine Fg (ah.2 ?_);have c:∀{h:ac} {b:Nat} {c:Array Value} {i:Nat},h[b]? =some (.cells c bo (0,0))→aX h ⟨b,0+i,none⟩=c[i]?:=fun hb=>by rw[aA];exact aL hb
 refine⟨_,rfl,_,c (i:=0) hb,_,c (i:=1) hb,sp,c (i:=2) hb,sk,c (i:=3) hb,_,c (i:=4) hb,_,c (i:=5) hb,?_⟩;have k1:=Upd.hnew No h [.int .u32 0,.int .u32 0,.slice none 0 0,.slice none 0 0,.bool false,.pointer none] bo;have b1:=bG h [.int .u32 0,.int .u32 0,.slice none 0 0,.slice none 0 0,.bool false,.pointer none] bo;refine bq ?_;simp only[bZ h];generalize hnew h [.int .u32 0,.int .u32 0,.slice none 0 0,.slice none 0 0,.bool false,.pointer none] bo=h1 at k1 b1
 have G:iJ h1 ⟨h.size,0,none⟩ 0 [.int .u32 ((0:Nat):Int),.int .u32 ((0:Nat):Int),.slice sp.a sp.len sp.cap,.slice sk.a sk.len sk.cap,.bool true,.pointer ow]=_:=gj _ h1 0 0 _ b1 (by simp);refine⟨.inr ⟨_,rfl,fun j N=>by rw[bB];exact f6 b1 (by simp at N⊢;omega)⟩,bq ?_⟩
 rw[G];have b2:=gg (o:=.cells (eZ 0 0 sp sk true ow) bo (0,0)) b1;have p:Upd No h _:=k1.trans (M':=(· =h.size)) (Upd.set h1 (.cells (eZ 0 0 sp sk true ow) bo (0,0)) rfl) fun x hx=>.inr (dP hx.symm)
 have D:h.size<(h1.setIfInBounds h.size (.cells (eZ 0 0 sp sk true ow) bo (0,0))).size:=bF b2;have O:h.size≠b:=fun e=>by have:=bF hb;omega
 have R:(Obj.cells (List.take (0+0) [Value.int .u32 0,.int .u32 0,.slice none 0 0,.slice none 0 0,.bool false,.pointer none]++ [Value.int .u32 ((0:Nat):Int),.int .u32 ((0:Nat):Int),.slice sp.a sp.len sp.cap,.slice sk.a sk.len sk.cap,.bool true,.pointer ow]++List.drop (0+0+ [Value.int .u32 ((0:Nat):Int),.int .u32 ((0:Nat):Int),.slice sp.a sp.len sp.cap,.slice sk.a sk.len sk.cap,.bool true,.pointer ow].length) [Value.int .u32 0,.int .u32 0,.slice none 0 0,.slice none 0 0,.bool false,.pointer none]).toArray bo (0,0))=.cells (eZ 0 0 sp sk true ow) bo (0,0):=rfl
 rw[R];generalize h1.setIfInBounds h.size (.cells (eZ 0 0 sp sk true ow) bo (0,0))=h2 at b2 p D;have g:=p.get0 hb;refine⟨_,rfl,sp,c (i:=2) g,_,rfl,sk,c (i:=3) g,?_⟩;refine A0 (A.upd p fun _ h=>h.elim) (by omega) fun q h3 C d=>?_
 refine⟨c (i:=3) (d.get0 g),?_⟩;refine A1 ((u.upd p fun _ h=>h.elim).upd d fun _ h=>h.elim) (by simp) fun s U t f=>?_
 have J:=f.get0 (d.get0 b2);have n:=C.within.upd f fun _ _ h=>h
 have m:=t.within;have T:=d.size;have z4:=f.size;have w:∀{h:ac} {c:Array Value} {x i:Nat},h[x]? =some (.cells c bo (0,0))→i<c.size→Wr h ⟨x,0+i,none⟩:=fun hb hi=>by rw[aA];exact f6 hb hi
 have st:∀{h:ac} {c c':Array Value} {x i:Nat} {v:Value} {k:ac→Prop},h[x]? =some (.cells c bo (0,0))→c.setIfInBounds i v=c'→(∀h',h'[x]? =some (.cells c' bo (0,0))→Upd (· =x) h h'→k h')→At (hset h ⟨x,i,none⟩ v) k:=fun hb e y=>yv hb fun h' B S=>y h' (e▸B) S
 refine⟨w (i:=2) J (show 2<6 by decide),st (i:=2) (c':=eZ 0 0 q sk true ow) J rfl fun V I E=>?_⟩
 refine⟨w (i:=3) I (show 3<6 by decide),st (i:=3) (c':=eZ 0 0 q s true ow) I rfl fun Z H z=>?_⟩
 refine⟨w (i:=5) H (show 5<6 by decide),st (i:=5) (c':=eZ 0 0 q s true none) H rfl fun X L F=>?_⟩
 refine vN (ah.2 ?_);have a:=E.tr (z.tr F);have z7:=a.size;refine y _ q s L ((n.upd a fun x hx e=>?_).more fun x hx=>?_) ((m.upd a fun x hx e=>?_).more fun x hx=>?_) ?_
 ·have e:x=h.size:=e;omega
 ·omega
 ·have e:x=h.size:=e;omega
 ·omega
 ·exact((p.tr d).tr f).trans a fun x hx=>.inr (dP hx.symm)
theorem G0{W:Nat→Prop}{h:ac}{b:Nat}{l:List Pr}(w:BuckAt W h b l)(o:∀x,W x→x<h.size)(B:dL l)(v:l.length≤1000000000)(p:Pr){K:Option Addr→ac→Prop}
  (A:∀h' b',BuckAt W h' b' (GH l p)→Upd No h h'→K (some ⟨b',0,none⟩) h'):
  HC PG iB [.pointer (some ⟨b,0,none⟩),.pointer none,.agg #[.string p.1,.string p.2]] [.c .ptr] K h:=by
 refine Ci _ none p ?_;unfold vh bj rQ Bo aC c9 BB;have k1:=Upd.hnew No h [.string p.1,.string p.2] ar;have b1:=bG h [.string p.1,.string p.2] ar;refine bq ?_;simp only[bZ h];generalize hnew h [.string p.1,.string p.2] ar=h1 at k1 b1;have H:=bF b1;have k:=w.upd k1 fun _ h=>h.elim
 obtain⟨sp,sk,ow,hb,C,z,D,E⟩:=k.ex;refine pA hb (ah.2 ?_);refine Q9 k v fun J G u b2 q s a=>?_
 have f:=a.get0 b1;refine⟨_,rfl,G,dQ (i:=2) b2,p.1,by rw[bB,aL f];rfl,p.2,by rw[bB,aL f];rfl,?_⟩
 refine Kh (q.sl fun _ _ _ h=>h) q.cap B v p fun t L j d=>?_
 have b3:=d.get0 b2;refine⟨_,rfl,Rb (i:=2) b3 (show 2<6 by decide),Gy (i:=2) (c':=eZ 0 0 t u true none) b3 rfl fun y F c=>?_⟩
 have I:=bF b2;have n:=j.upd c fun x hx e=>by have e:x=h1.size:=e;omega
 have m:=(s.upd d fun _ _ h=>h).upd c fun x hx e=>by have e:x=h1.size:=e;omega
 refine A y h1.size ⟨⟨t,u,none,F,n.sl fun x hx _ g=>?_,m.sl fun x hx _ g=>?_,j.cap,s.cap⟩,fun g=>?_⟩ (((k1.tr a).tr d).trans c fun x hx=>.inr ?_)
 ·have:=o x g;have:=a.size;omega
 ·have:=o x g;omega
 ·have:=o _ g;omega
 ·have hx:x=h1.size:=hx
  omega
theorem NJ{W:Nat→Prop}{h:ac}(b:∀x,W x→x<h.size){K:Option Addr→ac→Prop}(a:∀h' b',BuckAt W h' b' []→Upd No h h'→K (some ⟨b',0,none⟩) h'):HC PG te [] [.c .ptr] K h:=by
 refine EU ?_;unfold xN;exact a _ _ ⟨⟨⟨none,0,0⟩,⟨none,0,0⟩,none,bG h _ _,Sl.nil iu,Sl.nil q9,aj _,aj _⟩,fun hx=>jV _ (b _ hx)⟩ (Upd.hnew No h _ _)
theorem qK{W:Nat→Prop}{h:ac}(d:∀x,W x→x<h.size){K:Option Addr→ac→Prop}(b:∀h' b',NodeAt W h' b' ⟨fun _=>none,fun _=>none⟩→Upd No h h'→K (some ⟨b',0,none⟩) h'):HC PG nG [] [.c .ptr] K h:=by
 refine He ?_;unfold Ah Og;have a:fm (fun _=>(none:Option Pr)) 32= []:=by simp[fm]
 have e:fm (fun _=>(none:Option (Option Addr))) 32= []:=by simp[fm]
 refine b _ _ ⟨⟨0,0,⟨none,0,0⟩,⟨none,0,0⟩,none,bG h _ _,⟨by decide,by decide,fun c _=>by simp,fun c _=>by simp⟩,?_,?_,aj _,aj _⟩,fun hx=>jV _ (d _ hx)⟩ (Upd.hnew No h _ _)
 ·show Sl il 2 W _ _ (fm (fun _=>none) 32)
  rw[a];exact Sl.nil iu
 ·show Sl qL 1 W _ _ (fm (fun _=>none) 32)
  rw[e];exact Sl.nil q9
end Go.Proofs
namespace Go.Proofs
open Go.Lift
def ij(p:Pr):List Pr→List Pr
 | []=> [p]
 |q::l=>if kl q.1 p.1 then q::ij p l else if q.1=p.1 then p::l else p::q::l
theorem gi(p q:Pr)(l:List Pr):ij p (q::l)=if kl q.1 p.1 then q::ij p l else if q.1=p.1 then p::l else p::q::l:=rfl
theorem CA(p:Pr):∀{l:List Pr},dL l→GH l p=ij p l
 | [],_=>by simp[GH,ij,pos,eK]
 |q::l,d=>by
  have d:=bd.1 d;unfold ij;have a:pos (q::l) p.1=if kl q.1 p.1 then pos l p.1+1 else 0:=by
   unfold pos;rw[List.takeWhile_cons];by_cases h:kl q.1 p.1
   ·rw[if_pos (by simpa using h),if_pos h];rfl
   ·rw[if_neg (by simpa using h),if_neg h];rfl
  have c:eK (q::l) p.1=(decide (q.1=p.1)||eK l p.1):=by unfold eK;rw[List.any_cons]
  by_cases h:kl q.1 p.1
  ·have i:q.1≠p.1:=fun e=>by rw[e]at h;exact dj _ h
   rw[if_pos h,←CA p d.2];unfold GH;rw[c,a,if_pos h,decide_eq_false i,Bool.false_or];by_cases b:eK l p.1=true
   ·rw[if_pos b,if_pos b];rfl
   ·rw[if_neg b,if_neg b];rfl
  ·rw[if_neg h]
   unfold GH;rw[c,a,if_neg h];by_cases e:q.1=p.1
   ·rw[if_pos e,decide_eq_true e,Bool.true_or,if_pos rfl];rfl
   ·have g:=AL h e
    have b:eK l p.1=false:=by
     unfold eK;rw[List.any_eq_false];intro r j f;have f:=of_decide_eq_true f;have:=d.1 r j;rw[f]at this;exact dj _ (kR g this)
    rw[if_neg e,decide_eq_false e,b];rfl
theorem zd{p q:Pr}:∀{l:List Pr},q∈ij p l→q=p∨q∈l
 | [],h=>by simp[ij]at h;exact .inl h
 |r::l,h=>by
  unfold ij at h;split at h
  ·rcases aq.1 h with h|h
   ·exact .inr (h▸au ..)
   ·exact(zd h).imp id fun h=>aG _ h
  ·split at h
   ·rcases aq.1 h with h|h
    ·exact .inl h
    ·exact .inr (aG _ h)
   ·rcases aq.1 h with h|h
    ·exact .inl h
    ·exact .inr h
theorem E8(p:Pr):∀{l:List Pr},dL l→dL (ij p l)
 | [],_=>cV ..
 |q::l,a=>by
  have c:=a;have a:=bd.1 a;unfold ij;split
  ·rename_i h
   refine bd.2 ⟨fun r hm=>?_,E8 p a.2⟩
   rcases zd hm with rfl|hm
   ·exact h
   ·exact a.1 r hm
  ·rename_i h
   split
   ·rename_i e
    exact bd.2 ⟨fun r hm=>e▸a.1 r hm,a.2⟩
   ·rename_i e
    have b:=AL h e;refine bd.2 ⟨fun r hm=>?_,c⟩
    rcases aq.1 hm with rfl|hm
    ·exact b
    ·exact kR b (a.1 r hm)
theorem Dy(p:Pr)(g:ByteArray→Bool):∀{l:List Pr},dL l→(ij p l).filter (fun q=>g q.1)=if g p.1 then ij p (l.filter fun q=>g q.1)else l.filter fun q=>g q.1
 | [],_=>by
  unfold ij;rw[cf,List.filter_nil]
 |q::l,c=>by
  have k:=c;have c:=bd.1 c;have j:=Dy p g c.2;rw[gi];by_cases h:kl q.1 p.1
  ·rw[if_pos h,cf,cf,j]
   by_cases f:g q.1=true
   ·rw[if_pos f,if_pos f]
    split
    ·rw[gi,if_pos h]
    ·rfl
   ·rw[if_neg f,if_neg f]
  ·rw[if_neg h]
   by_cases e:q.1=p.1
   ·rw[if_pos e,cf,cf,e]
    by_cases a:g p.1=true
    ·rw[if_pos a,if_pos a,if_pos a,gi,if_neg h,if_pos e]
    ·rw[if_neg a,if_neg a,if_neg a]
   ·rw[if_neg e]
    have d:=AL h e;rw[cf];by_cases a:g p.1=true
    ·rw[if_pos a,if_pos a]
     have:∀r∈(q::l).filter (fun q=>g q.1),kl p.1 r.1:=fun r hm=>by
      rcases aq.1 (List.mem_filter.1 hm).1 with rfl|hm
      ·exact d
      ·exact kR d (c.1 r hm)
     cases hf:(q::l).filter (fun q=>g q.1)with
     |nil=>rfl
     |cons r rs=>
      have b:=this r (by rw[hf];exact au ..);rw[gi,if_neg fun i=>dj _ (kR b i),if_neg fun e=>by rw[e]at b;exact dj _ b]
    ·rw[if_neg a,if_neg a]
theorem Cz{p:Pr}:∀{l:List Pr},dL l→p∈l→ij p l=l
 |q::l,a,hm=>by
  have a:=bd.1 a;unfold ij;rcases aq.1 hm with rfl|hm
  ·rw[if_neg (dj _),if_pos rfl]
  ·rw[if_pos (a.1 p hm),Cz a.2 hm]
def ck(x:Hs)(lev:Nat)(k:ByteArray):Nat:=((im x k).toNat>>>(5*lev))%32
theorem IH(x:Hs)(lev:Nat)(k:ByteArray):ck x lev k<32:=oY _ (by omega)
def part(x:Hs)(lev c:Nat)(l:List Pr):List Pr:=l.filter fun p=>decide (ck x lev p.1=c)
def TrieAt(W:Nat→Prop)(x:Hs)(h:ac):Nat→Nat→List Pr→Prop
 |0,b,l=>BuckAt W h b l
 |m+1,b,l=>∃s,NodeAt W h b s∧∀c,c<32→
  ((part x (12-m) c l= []∧s.p c=none∧s.k c=none)∨(∃p,part x (12-m) c l= [p]∧s.p c=some p∧s.k c=none)∨
   (2≤(part x (12-m) c l).length∧s.p c=none∧∃kb,s.k c=some (some ⟨kb,0,none⟩)∧TrieAt W x h m kb (part x (12-m) c l)))
theorem TrieAt.upd0{W:Nat→Prop}{x:Hs}{h h':ac}(k:Upd No h h'):∀{m b:Nat} {l:List Pr},TrieAt W x h m b l→TrieAt W x h' m b l
 |0,_,_,t=>BuckAt.upd t k fun _ h=>h.elim
 |m+1,_,_,⟨s,nd,hc⟩=>⟨s,nd.upd k fun _ h=>h.elim,fun c a=>(hc c a).imp id fun o=>o.imp id fun⟨g,e,d,i,f⟩=>⟨g,e,d,i,TrieAt.upd0 k f⟩⟩
theorem NodeAt.less{W W':Nat→Prop}{h:ac}{b:Nat}{s:Slots}(n:NodeAt W h b s)(hm:∀b,W' b→W b∨h.size≤b):NodeAt W' h b s:=by
 obtain⟨d,m,sp,sk,ow,a,f,i,g,c,e⟩:=n.ex;exact⟨⟨d,m,sp,sk,ow,a,f,i.less hm,g.less hm,c,e⟩,fun hx=>(hm _ hx).elim n.nw fun h=>by have:=bF a;omega⟩
theorem BuckAt.less{W W':Nat→Prop}{h:ac}{b:Nat}{l:List Pr}(n:BuckAt W h b l)(hm:∀b,W' b→W b∨h.size≤b):BuckAt W' h b l:=by
 obtain⟨sp,sk,ow,a,f,e,c,d⟩:=n.ex;exact⟨⟨sp,sk,ow,a,f.less hm,e.less hm,c,d⟩,fun hx=>(hm _ hx).elim n.nw fun h=>by have:=bF a;omega⟩
theorem TrieAt.less{W W':Nat→Prop}{x:Hs}{h:ac}(hm:∀b,W' b→W b∨h.size≤b):∀{m b:Nat} {l:List Pr},TrieAt W x h m b l→TrieAt W' x h m b l
 |0,_,_,t=>BuckAt.less t hm
 |m+1,_,_,⟨s,nd,hc⟩=>⟨s,nd.less hm,fun c a=>(hc c a).imp id fun o=>o.imp id fun⟨g,e,d,i,f⟩=>⟨g,e,d,i,TrieAt.less hm f⟩⟩
theorem TrieAt.updM{W M:Nat→Prop}{x:Hs}{h h':ac}(k:Upd M h h')(hm:∀b,M b→W b∨h.size≤b):∀{m b:Nat} {l:List Pr},TrieAt W x h m b l→TrieAt W x h' m b l
 |0,_,_,t=>BuckAt.upd t k hm
 |m+1,_,_,⟨s,nd,hc⟩=>⟨s,nd.upd k hm,fun c a=>(hc c a).imp id fun o=>o.imp id fun⟨g,e,d,i,f⟩=>⟨g,e,d,i,TrieAt.updM k hm f⟩⟩
end Go.Proofs
namespace Go.Proofs
open Go.Lift
theorem S9(a b:Nat):(af (IntKind.bits .u64) (a:Int)&&&af (IntKind.bits .u64) (b:Int)).toNat=(a%18446744073709551616)&&&(b%18446744073709551616):=by
 simp[IntKind.bits,BitVec.toNat_and,BitVec.toNat_ofInt];rfl
theorem Uc{hv:Int}(d:0≤hv∧hv<18446744073709551616){lev:Nat}(f:lev<13){h:ac}{K:Int→ac→Prop}(b:K (((hv.toNat>>>(5*lev))%32:Nat):Int) h):HC PG oQ [.int .u64 hv,.int .i64 lev] [.c (.int .i64)] K h:=by
 refine Lv hv lev ?_;unfold Er;refine Join.plain (aw (fun h=>by omega) fun _=>?_)
 rw[decide_eq_false (by omega)];refine ah.2 ?_;have c:IntKind.wrap .i64 (5*(lev:Int))=((5*lev:Nat):Int):=by rw[kE (by omega)];omega
 rw[c];have em:min (((5*lev:Nat):Int)).toNat (IntKind.bits .u64)=5*lev:=by rw[aF];exact bf (by show 5*lev≤64;omega)
 rw[em];obtain⟨n,rfl⟩:=Int.eq_ofNat_of_zero_le d.1;rw[aF]at b;simp only[Bd];rw[kT];have a:n>>>(5*lev)<18446744073709551616:=Nat.lt_of_le_of_lt (Nat.shiftRight_le _ _) (by omega);have e:=S9 (n>>>(5*lev)) 31;rw[Nat.mod_eq_of_lt a,show((31:Nat):Int)=(31:Int)from rfl,show 31%18446744073709551616=2^5-1 from rfl,Nat.and_two_pow_sub_one_eq_mod]at e
 rw[e];have hm:n>>>(5*lev)%2^5<32:=oY _ (by omega);rw[Go.IntWalk.u64_in _ (by omega),kE (by omega)];exact⟨by omega,b⟩
theorem SZ{x:Hs}{k:ByteArray}{lev:Nat}(a:lev<13){h:ac}{K:Int→ac→Prop}(b:K (ck x lev k:Int) h):HC PG oQ [.int .u64 (im x k),.int .i64 lev] [.c (.int .i64)] K h:=Uc (BG x k) a b
abbrev RR(x:Hs)(k:ByteArray):Value:=.agg #[.int .u64 x.k0,.int .u64 x.k1,.int .u64 x.mask,.pointer none,.string k,.int .u64 (im x k)]
theorem H7{x:Hs}{lev c:Nat}{l:List Pr}(h:∀p∈l,ck x lev p.1=c):part x lev c l=l:=List.filter_eq_self.2 fun p a=>decide_eq_true (h p a)
theorem L8{x:Hs}{lev c:Nat}{l:List Pr}(h:∀p∈l,ck x lev p.1≠c):part x lev c l= []:=List.filter_eq_nil_iff.2 fun p a=>by simpa using h p a
theorem H6{x:Hs}{lev c:Nat}{p:Pr}{l:List Pr}(a:dL l):part x lev c (ij p l)=if ck x lev p.1=c then ij p (part x lev c l)else part x lev c l:=by
 have:=Dy p (fun k=>decide (ck x lev k=c)) a
 unfold part;rw[this];by_cases h:ck x lev p.1=c
 ·rw[if_pos h,if_pos (decide_eq_true h)]
 ·rw[if_neg h,if_neg (by simpa using h)]
theorem LR{p q:Pr}(h:p.1≠q.1):(ij q [p]).length=2:=by
 rw[gi];by_cases a:kl p.1 q.1
 ·rw[if_pos a];rfl
 ·rw[if_neg a,if_neg h];rfl
theorem Mb{p q r:Pr}(h:r∈ij q [p]):r=p∨r=q:=(zd h).symm.imp (fun h=>aB.1 h) id
theorem ln{β:Type}{g:Nat→Option β}{i c:Nat}{x:Option β}(h:c≠i):upd g i x c=g c:=by unfold upd;rw[if_neg h]
theorem RL{W:Nat→Prop}{x:Hs}:∀(m:Nat) (p q:Pr),m≤13→p.1≠q.1→∀{h:ac},(∀y,W y→y<h.size)→∀{K:Option Addr→ac→Prop},(∀h' b',TrieAt W x h' m b' (ij q [p])→Upd No h h'→K (some ⟨b',0,none⟩) h')→
  HC PG km [RR x q.1,.agg #[.string p.1,.string p.2],.agg #[.string q.1,.string q.2],.int .i64 ((13-m:Nat):Int)] [.c .ptr] K h:=by
 intro m;induction m with
 |zero=>
  intro p q _ F h R K P;have C:∀{h'},Upd No h h'→∀y,W y→y<h'.size:=fun k y U=>aO (R y U) k.size
  refine su (x.k0,x.k1,x.mask,none,q.1,im x q.1) p q ((13-0:Nat):Int) ?_;unfold nT ad bO ag Cr rQ aC BB EB Ng om Hy;have k1:=Upd.hnew No h [.int .u64 x.k0,.int .u64 x.k1,.int .u64 x.mask,.pointer none,.string q.1,.int .u64 (im x q.1)] cu;have b1:=bG h [.int .u64 x.k0,.int .u64 x.k1,.int .u64 x.mask,.pointer none,.string q.1,.int .u64 (im x q.1)] cu
  refine bq ?_;simp only[bZ h];generalize hnew h [.int .u64 x.k0,.int .u64 x.k1,.int .u64 x.mask,.pointer none,.string q.1,.int .u64 (im x q.1)] cu=h1 at k1 b1;have B:=Upd.hnew No h1 [.string p.1,.string p.2] ar;have b2:=bG h1 [.string p.1,.string p.2] ar;refine bq ?_;simp only[bZ h1];generalize hnew h1 [.string p.1,.string p.2] ar=h2 at B b2
  have z:=Upd.hnew No h2 [.string q.1,.string q.2] ar;have b3:=bG h2 [.string q.1,.string q.2] ar;refine bq ?_;simp only[bZ h2];generalize hnew h2 [.string q.1,.string q.2] ar=h3 at z b3;have d:∀{h':ac},Upd No h3 h'→∀i,aX h' (adr ⟨h.size,0,none⟩ i)=(#[.int .u64 x.k0,.int .u64 x.k1,.int .u64 x.mask,.pointer none,.string q.1,.int .u64 (im x q.1)]:Array Value)[i]?:=fun k i=>by
   rw[bB,aL (k.get0 (z.get0 (B.get0 b1))),aA]
  have u:∀{h':ac},Upd No h3 h'→∀i,aX h' (adr ⟨h1.size,0,none⟩ i)=(#[.string p.1,.string p.2]:Array Value)[i]?:=fun k i=>by rw[bB,aL (k.get0 (z.get0 b2)),aA]
  have o:∀{h':ac},Upd No h3 h'→∀i,aX h' (adr ⟨h2.size,0,none⟩ i)=(#[.string q.1,.string q.2]:Array Value)[i]?:=fun k i=>by rw[bB,aL (k.get0 b3),aA]
  have r:=Upd.refl No h3;refine ay.2 ⟨none,d r 3,p.1,u r 0,p.2,u r 1,none,d r 3,q.1,o r 0,q.2,o r 1,?_⟩;refine NJ (C ((k1.tr B).tr z)) fun h4 b4 X b=>⟨⟨o b 0,o b 1⟩,d b 3,⟨u b 0,u b 1⟩,d b 3,?_⟩
  refine G0 X (C (((k1.tr B).tr z).tr b)) cQ (by simp) p fun Y b5 O A=>?_
  have n:=b.tr A;refine⟨⟨o n 0,o n 1⟩,d n 3,?_⟩;have N:GH [] p= [p]:=CA p cQ;rw[N]at O;refine G0 O (C (((k1.tr B).tr z).tr n)) (cV ..) (by simp) q fun V J L w=>?_
  rw[CA q (cV ..)]at L;exact P V J L ((((k1.tr B).tr z).tr n).tr w)
 |succ m ih=>
  intro p q hm F h R K P;have C:∀{h'},Upd No h h'→∀y,W y→y<h'.size:=fun k y U=>aO (R y U) k.size
  have Z:13-(m+1)<13:=by omega
  have j:13-(m+1)=12-m:=by omega
  refine su (x.k0,x.k1,x.mask,none,q.1,im x q.1) p q ((13-(m+1):Nat):Int) ?_;unfold nT ad bO ag Cr rQ aC BB EB Ng om Hy;have k1:=Upd.hnew No h [.int .u64 x.k0,.int .u64 x.k1,.int .u64 x.mask,.pointer none,.string q.1,.int .u64 (im x q.1)] cu;have b1:=bG h [.int .u64 x.k0,.int .u64 x.k1,.int .u64 x.mask,.pointer none,.string q.1,.int .u64 (im x q.1)] cu
  refine bq ?_;simp only[bZ h];generalize hnew h [.int .u64 x.k0,.int .u64 x.k1,.int .u64 x.mask,.pointer none,.string q.1,.int .u64 (im x q.1)] cu=h1 at k1 b1;have B:=Upd.hnew No h1 [.string p.1,.string p.2] ar;have b2:=bG h1 [.string p.1,.string p.2] ar;refine bq ?_;simp only[bZ h1];generalize hnew h1 [.string p.1,.string p.2] ar=h2 at B b2
  have z:=Upd.hnew No h2 [.string q.1,.string q.2] ar;have b3:=bG h2 [.string q.1,.string q.2] ar;refine bq ?_;simp only[bZ h2];generalize hnew h2 [.string q.1,.string q.2] ar=h3 at z b3;have d:∀{h':ac},Upd No h3 h'→∀i,aX h' (adr ⟨h.size,0,none⟩ i)=(#[.int .u64 x.k0,.int .u64 x.k1,.int .u64 x.mask,.pointer none,.string q.1,.int .u64 (im x q.1)]:Array Value)[i]?:=fun k i=>by
   rw[bB,aL (k.get0 (z.get0 (B.get0 b1))),aA]
  have u:∀{h':ac},Upd No h3 h'→∀i,aX h' (adr ⟨h1.size,0,none⟩ i)=(#[.string p.1,.string p.2]:Array Value)[i]?:=fun k i=>by rw[bB,aL (k.get0 (z.get0 b2)),aA]
  have o:∀{h':ac},Upd No h3 h'→∀i,aX h' (adr ⟨h2.size,0,none⟩ i)=(#[.string q.1,.string q.2]:Array Value)[i]?:=fun k i=>by rw[bB,aL (k.get0 b3),aA]
  have r:=Upd.refl No h3;have ne:(((13-(m+1):Nat):Int)==(13:Int))=false:=by rw[beq_eq_false_iff_ne];omega
  rw[ne];refine ah.2 ⟨_,d r 0,_,d r 1,_,d r 2,_,u r 0,_,d r 5,?_⟩;refine GM fun h4 b=>⟨d b 5,SZ Z ⟨d b 5,SZ Z ?_⟩⟩
  have hi:=IH x (13-(m+1)) p.1;have hj:=IH x (13-(m+1)) q.1;have g:=((k1.tr B).tr z);have hcl:=LR F;refine CondP.intro (fun e=>?_) fun e=>?_
  ·have e:ck x (13-(m+1)) p.1=ck x (13-(m+1)) q.1:=by have:=eq_of_beq e;omega
   refine⟨_,d b 3,_,d b 0,_,d b 1,_,d b 2,_,d b 3,_,d b 4,_,d b 5,_,u b 0,_,u b 1,_,o b 0,_,o b 1,?_⟩;refine qK (C (g.tr b)) fun Y b5 G A=>?_
   have a:=b.tr A;refine⟨⟨o a 0,o a 1⟩,⟨u a 0,u a 1⟩,⟨d a 0,d a 1,d a 2,d a 3,d a 4,d a 5⟩,d a 3,?_⟩;have ew:IntKind.wrap .i64 (((13-(m+1):Nat):Int)+1)=((13-m:Nat):Int):=by rw[kE (by omega)];omega
   rw[ew];refine ih p q (by omega) F (C (g.tr a)) fun V J t6 w=>?_
   have f:=a.tr w;refine⟨d f 3,?_⟩;refine Az (G.upd w fun _ h=>h.elim) (C (g.tr f)) hi (fun y h=>by cases h) ⟨J,0,none⟩ fun S Q I D=>?_
   refine P S Q ⟨_,I,fun c hc=>?_⟩ ((g.tr f).tr D)
   rw[j]at e;by_cases t:c=ck x (13-(m+1)) p.1
   ·refine .inr (.inr ?_)
    have ea:part x (12-m) c (ij q [p])=ij q [p]:=H7 fun r H=>by
     rcases Mb H with rfl|rfl
     ·rw[t,j]
     ·rw[t,j,e]
    rw[ea];exact⟨by omega,by simp[upd],J,by rw[t];exact kF,TrieAt.upd0 D t6⟩
   ·refine .inl ⟨L8 fun r H=>?_,by simp[upd],ln t⟩
    rw[j]at t;rcases Mb H with rfl|rfl
    ·exact fun e=>t e.symm
    ·rw[←e];exact fun e=>t e.symm
  ·have e:ck x (13-(m+1)) p.1≠ck x (13-(m+1)) q.1:=fun h=>by rw[h]at e;simp at e
   refine⟨_,d b 3,_,u b 0,_,u b 1,_,d b 3,_,o b 0,_,o b 1,?_⟩;refine qK (C (g.tr b)) fun Y b5 G A=>?_
   have a:=b.tr A;refine⟨⟨o a 0,o a 1⟩,d a 3,⟨u a 0,u a 1⟩,d a 3,?_⟩;refine uo G (C (g.tr a)) hi (fun y h=>by cases h) p fun V J T w=>?_
   have f:=a.tr w;refine⟨⟨o f 0,o f 1⟩,d f 3,?_⟩;refine uo T (C (g.tr f)) hj (fun y h=>by simp[upd]) q fun S Q I D=>?_
   refine P S Q ⟨_,I,fun c hc=>?_⟩ ((g.tr f).tr D)
   have s:=H6 (x:=x) (lev:=12-m) (c:=c) (p:=q) (l:= [p]) (cV ..);rw[j]at e;by_cases E:c=ck x (12-m) p.1
   ·have v:ck x (12-m) q.1≠c:=fun h=>e (by omega)
    have N:part x (12-m) c [p]= [p]:=H7 fun r H=>by rw[aB.1 H,E]
    rw[if_neg v,N]at s;exact .inr (.inl ⟨p,s,by simp[upd,j,E,e],by simp[upd]⟩)
   ·have N:part x (12-m) c [p]= []:=L8 fun r H=>by rw[aB.1 H];exact fun h=>E h.symm
    rw[N]at s;by_cases v:c=ck x (12-m) q.1
    ·rw[if_pos v.symm]at s
     exact .inr (.inl ⟨q,s,by simp[upd,j,v],by simp[upd]⟩)
    ·rw[if_neg fun h=>v h.symm]at s
     exact .inl ⟨s,by simp[upd,j,v,E],by simp[upd]⟩
end Go.Proofs
