/- A part of the proof that the named laws of this program answer true, whatever the input. -/
import Derived.Test.YtcpiahjlddmfiaaGreatPart1
open BitVec renaming ofInt→ag
open Int renaming toNat_natCast→aM
open List renaming append_nil→bW,append_assoc→aj,append_cancel_left→gv,mem_cons_self→aq,mem_cons→ao,length→fj,length_append→ae,getElem_of_mem→fa,length_take→aY,take_append_drop→bC,pairwise_append→cd,pairwise_cons→bf,length_set→jG,getElem_mem→bK,pairwise_iff_getElem→dd,take_succ_cons→eZ,drop_succ_cons→gc,flatMap_cons→aD,drop_left'→bL,mem_cons_of_mem→aC,pairwise_singleton→cH,filter_cons→cJ,mem_singleton→ay
open List.Pairwise renaming nil→dV
open Nat renaming zero_add→aw,min_eq_left→aX,le_of_eq→db,le_refl→ar,lt_irrefl→lx,mod_lt→ni,lt_of_lt_of_le→aK
open Option renaming some→bv
open UInt8 renaming toNat_inj→ma
namespace Go.Proofs
theorem DK{m n:Bn}(q:Br (rc m.2.1 m.2.2))(h:∀k v,vd m k v→vd n k v):∃t,m.1=n.1++t:=by
 rcases q with⟨v,i⟩|⟨j,k,u,v,p,o,w,nk,c⟩
 ·obtain⟨r,e,_⟩:=h m.1 v ⟨[],(bW _).symm,i⟩
  exact⟨r,e⟩
 ·obtain⟨r,e,_⟩:=h (m.1++j) u ⟨j,rfl,p⟩
  obtain⟨s,f,_⟩:=h (m.1++k) v ⟨k,rfl,o⟩;rcases List.append_eq_append_iff.1 e with⟨a,d,g⟩|⟨a,d,g⟩
  ·rw[d,aj]at f
   have f:=gv f;cases a with
   |nil=>exact⟨[],by rw[d];simp⟩
   |cons x a=>
    rw[g]at c;rw[f]at c;exact absurd rfl c
  ·exact⟨a,d⟩
theorem C2:∀{F F':Fo},ff F→ff F'→(∀k v,qc F k v↔qc F' k v)→F=F'
 | .nil,.nil,_,_,_=>rfl
 | .nil,.cons lab w c d,_,h,he=>by
  obtain⟨r,v,j⟩:=lG h _ (aq ..);exact((he _ v).2 (fS.2 ⟨_,aq ..,r,rfl,j⟩)).elim
 | .cons lab w c d,.nil,h,_,he=>by
  obtain⟨r,v,j⟩:=lG h _ (aq ..);exact((he _ v).1 (fS.2 ⟨_,aq ..,r,rfl,j⟩)).elim
 | .cons lab w c d,.cons f i a g,h,h',he=>by
  have x:∀{lab w c d} {F:Fo},ff (.cons lab w c d)→ff F→(∀k v,qc F k v→qc (.cons lab w c d) k v)→∀n∈F.toL,hd lab≤hd n.1:=by
   intro lab w c d F h H hi n o;obtain⟨r,v,j⟩:=lG H n o;obtain⟨m,hm,e,_⟩:=pv h (hi _ v (fS.2 ⟨n,o,r,rfl,j⟩));rw[ox ((eX.1 H).2 n o).1]at e;rcases ao.1 hm with rfl|hm
   ·simp only at e;omega
   ·have:=h.2.2.2.1 m hm;omega
  have O:=x h h' (fun k v=>(he k v).2) _ (aq ..)
  have L:=x h' h (fun k v=>(he k v).1) _ (aq ..)
  simp only at O L;have s:hd lab=hd f:=by omega
  have z:∀{lab w c d f i a g},ff (.cons lab w c d)→ff (.cons f i a g)→hd lab=hd f→(∀k v,qc (.cons lab w c d) k v→qc (.cons f i a g) k v)→(∀k v,vd (lab,w,c) k v→vd (f,i,a) k v)∧(∀k v,qc d k v→qc g k v):=by
   intro lab w c d f i a g h h' s hi;refine⟨fun k v p=>?_,fun k v p=>?_⟩
   ·obtain⟨n,o,e,j⟩:=pv h' (hi k v (fS.2 ⟨_,aq ..,p⟩))
    obtain⟨r,rfl,_⟩:=p;rw[ox h.1]at e;rw[←Ao h' o (aq ..) (by simp only;omega)];exact j
   ·obtain⟨m,hm,em,_⟩:=pv h.2.2.2.2 p
    have:=h.2.2.2.1 m hm;obtain⟨n,o,e,j⟩:=pv h' (hi k v (Or.inr p));rcases ao.1 o with rfl|o
    ·simp only at e;omega
    ·exact fS.2 ⟨n,o,j⟩
  have⟨n1,P⟩:=z h h' s fun k v=>(he k v).1
  have⟨E,J⟩:=z h' h s.symm fun k v=>(he k v).2
  have q:d=g:=C2 h.2.2.2.2 h'.2.2.2.2 fun k v=>⟨P k v,J k v⟩
  obtain⟨t,C⟩:=DK (m:=(lab,w,c)) (n:=(f,i,a)) ((Aq h.2.2.1).1 h.2.1) n1;obtain⟨t',B⟩:=DK (m:=(f,i,a)) (n:=(lab,w,c)) ((Aq h'.2.2.1).1 h'.2.1) E;simp only at C B;have A:lab=f:=by
   have:t= []:=by
    have I:=congrArg fj C;have Q:=congrArg fj B;rw[ae]at I Q;exact List.length_eq_zero_iff.1 (by omega)
   rw[C,this,bW]
  subst A;have y:∀{w c i a},(∀k v,vd (lab,w,c) k v→vd (lab,i,a) k v)→∀k v,rc w c k v→rc i a k v:=by
   intro w c i a o k v p;obtain⟨r,e,j⟩:=o (lab++k) v ⟨k,rfl,p⟩;rw[gv e];exact j
  have D:=y n1;have G:=y E;have K:w=i:=by
   have wv:∀{w c i a},ff a→(∀k v,rc w c k v→rc i a k v)→∀v,w=some v→i=some v:=by
    intro w c i a hc hi v N;rcases hi [] v (.inl ⟨rfl,N⟩)with⟨_,h⟩|h
    ·exact h
    ·exact absurd rfl (l0 hc h)
   exact Option.ext fun v=>⟨wv h'.2.2.1 D v,wv h.2.2.1 G v⟩
  have kd:∀{w c i a},ff c→(∀k v,rc w c k v→rc i a k v)→∀k v,qc c k v→qc a k v:=by
   intro w c i a hc hi k v p;rcases hi k v (.inr p)with⟨e,_⟩|h
   ·exact absurd e (l0 hc p)
   ·exact h
  have u:c=a:=C2 h.2.2.1 h'.2.2.1 fun k v=>⟨kd h.2.2.1 D k v,kd h'.2.2.1 G k v⟩
  rw[K,u,q]
def oF(P a:List UInt8→ByteArray→Prop)(k:List UInt8)(v:ByteArray):Prop:=∀k' v',a k' v'↔(k'=k∧v'=v)∨(k'≠k∧P k' v')
theorem yZ{w:Option ByteArray}{F:Fo}(h:ff F)(v:ByteArray):oF (rc w F) (rc (some v) F) [] v:=by
 intro k' a;unfold rc;constructor
 ·rintro(⟨e,f⟩|hi)
  ·exact .inl ⟨e,(bv.inj f).symm⟩
  ·exact .inr ⟨l0 h hi,.inr hi⟩
 ·rintro(⟨e,f⟩|⟨e,⟨f,_⟩|hi⟩)
  ·exact .inl ⟨e,by rw[f]⟩
  ·exact absurd f e
  ·exact .inr hi
theorem uK{w:Option ByteArray}{F F':Fo}{k:List UInt8}{v:ByteArray}(c:k≠[])(h:oF (qc F) (qc F') k v):oF (rc w F) (rc w F') k v:=by
 intro k' a;unfold rc;rw[h k' a];constructor
 ·rintro(⟨e,f⟩|hi|hi)
  ·exact .inr ⟨fun d=>c (d.symm.trans e),.inl ⟨e,f⟩⟩
  ·exact .inl hi
  ·exact .inr ⟨hi.1,.inr hi.2⟩
 ·rintro(hi|⟨e,hi|hi⟩)
  ·exact .inr (.inl hi)
  ·exact .inl hi
  ·exact .inr (.inr ⟨e,hi⟩)
theorem Em{F:Fo}{k:List UInt8}{v:ByteArray}{i:Nat}(h:ff F)(w:k≠[])(hi:∀j (d:j<F.toL.length),j<i→hd F.toL[j].1<hd k)(g:∀j (d:j<F.toL.length),i≤j→hd k<hd F.toL[j].1):ff (.ofL (F.toL.take i++(k,some v,.nil)::F.toL.drop i))∧oF (qc F) (qc (.ofL (F.toL.take i++(k,some v,.nil)::F.toL.drop i))) k v:=by
 have hc:=eX.1 h;have z:∀n∈F.toL.take i,hd n.1<hd k:=fun n c=>by
  obtain⟨j,d,e⟩:=fa c;rw[aY]at d;rw[←e,List.getElem_take];exact hi j (by omega) (by omega)
 have y:∀n∈F.toL.drop i,hd k<hd n.1:=fun n c=>by
  obtain⟨j,d,e⟩:=fa c;rw[List.length_drop]at d;rw[←e,List.getElem_drop];exact g _ (by omega) (by omega)
 have mem:∀n,n∈F.toL.take i++(k,some v,.nil)::F.toL.drop i↔n=(k,some v,Fo.nil)∨n∈F.toL:=fun n=>by
  conv=>rhs;rw[←bC i F.toL]
  simp only[List.mem_append,ao];exact⟨fun h=>h.elim (fun h=>.inr (.inl h)) fun h=>h.elim .inl fun h=>.inr (.inr h),fun h=>h.elim (fun h=>.inr (.inl h)) fun h=>h.elim .inl fun h=>.inr (.inr h)⟩
 refine⟨eX.2 ⟨?_,?_⟩,fun k' u=>?_⟩
 ·rw[Fo.to_of]
  have m:=hc.1;rw[←bC i F.toL,cd]at m;refine cd.2 ⟨m.1,bf.2 ⟨y,m.2.1⟩,fun a q b p=>?_⟩
  rcases ao.1 p with rfl|p
  ·exact z a q
  ·exact m.2.2 a q b p
 ·rw[Fo.to_of]
  intro n c;rcases(mem n).1 c with rfl|c
  ·exact⟨w,.inl rfl,trivial⟩
  ·exact hc.2 n c
 ·rw[fS,fS,Fo.to_of]
  constructor
  ·rintro⟨n,c,r,e,t⟩
   rcases(mem n).1 c with rfl|c
   ·rcases t with⟨rfl,f⟩|f
    ·exact .inl ⟨by rw[e];exact bW _,(bv.inj f).symm⟩
    ·exact f.elim
   ·right
    refine⟨fun x=>?_,n,c,r,e,t⟩
    have A:hd k=hd n.1:=by rw[←x,e,ox (hc.2 n c).1]
    obtain⟨j,d,s⟩:=fa c;rcases Nat.lt_or_ge j i with o|o
    ·have:=hi j d o;rw[s]at this;omega
    ·have:=g j d o;rw[s]at this;omega
  ·rintro(⟨rfl,rfl⟩|⟨_,n,c,h⟩)
   ·exact⟨(k',some u,.nil),(mem _).2 (.inl rfl),[],(bW _).symm,.inl ⟨rfl,rfl⟩⟩
   ·exact⟨n,(mem _).2 (.inr c),h⟩
theorem nA{α:Type}{l:List α}{i:Nat}(hi:i<l.length){a x:α}(nd:∀j (d:j<l.length),j≠i→l[j]≠l[i]):x∈l.set i a↔x=a∨(x∈l∧x≠l[i]):=by
 constructor
 ·intro h
  obtain⟨j,d,e⟩:=fa h;rw[jG]at d;rw[List.getElem_set]at e;split at e
  ·exact .inl e.symm
  ·rename_i c
   exact .inr ⟨by rw[←e];exact bK d,by rw[←e];exact nd j d fun e=>c e.symm⟩
 ·rintro(rfl|⟨h,c⟩)
  ·exact List.mem_of_getElem (i:=i) (h:=by simpa using hi) (by simp)
  ·obtain⟨j,d,e⟩:=fa h
   have:i≠j:=by rintro rfl;exact c e.symm
   exact List.mem_of_getElem (i:=j) (h:=by simpa using d) (by rw[List.getElem_set_ne this];exact e)
theorem Hy{F:Fo}{i:Nat}{m:Bn}(h:ff F)(hi:i<F.toL.length)(hm:HL m)(e:hd m.1=hd F.toL[i].1):ff (.ofL (F.toL.set i m)):=by
 have hc:=eX.1 h;rw[eX,Fo.to_of];refine⟨?_,fun n g=>?_⟩
 ·rw[dd]at hc⊢
  intro a b f d c;rw[jG]at f d;rw[List.getElem_set,List.getElem_set];split
  ·rename_i ea;subst ea
   rw[if_neg (by omega),e];exact hc.1 _ _ f d c
  ·split
   ·rename_i eb;subst eb
    rw[e];exact hc.1 _ _ f d c
   ·exact hc.1 _ _ f d c
 ·rcases List.mem_or_eq_of_mem_set g with g|rfl
  ·exact hc.2 n g
  ·exact hm
theorem z6{F:Fo}(h:ff F){i:Nat}(hi:i<F.toL.length)(j:Nat)(d:j<F.toL.length)(a:j≠i):F.toL[j]≠F.toL[i]:=by
 have hc:=(eX.1 h).1;rw[dd]at hc;intro e;rcases Nat.lt_or_gt_of_ne a with c|c
 ·have:=hc j i d hi c;rw[e]at this;omega
 ·have:=hc i j hi d c;rw[e]at this;omega
theorem Be{F:Fo}{i:Nat}{m:Bn}{k:List UInt8}{v:ByteArray}(h:ff F)(hi:i<F.toL.length)(ek:hd F.toL[i].1=hd k)(j:oF (vd F.toL[i]) (vd m) k v):oF (qc F) (qc (.ofL (F.toL.set i m))) k v:=by
 intro k' g;have hc:=eX.1 h;rw[fS,fS,Fo.to_of];constructor
 ·rintro⟨n,c,d⟩
  rcases(nA hi (z6 h hi)).1 c with rfl|⟨c,f⟩
  ·rcases(j k' g).1 d with a|⟨a,p⟩
   ·exact .inl a
   ·exact .inr ⟨a,_,bK hi,p⟩
  ·refine .inr ⟨fun e=>f ?_,n,c,d⟩
   obtain⟨r,o,_⟩:=d;refine Ao h c (bK hi) ?_;rw[ek,←e,o,ox (hc.2 n c).1]
 ·rintro(a|⟨a,n,c,d⟩)
  ·exact⟨m,(nA hi (z6 h hi)).2 (.inl rfl),(j k' g).2 (.inl a)⟩
  ·by_cases e:n=F.toL[i]
   ·exact⟨m,(nA hi (z6 h hi)).2 (.inl rfl),(j k' g).2 (.inr ⟨a,by rw[←e];exact d⟩)⟩
   ·exact⟨n,(nA hi (z6 h hi)).2 (.inr ⟨c,e⟩),d⟩
theorem El{lab r:List UInt8}{w g:Option ByteArray}{F F':Fo}{v:ByteArray}(h:oF (rc w F) (rc g F') r v):oF (vd (lab,w,F)) (vd (lab,g,F')) (lab++r) v:=by
 intro k' d;constructor
 ·rintro⟨s,e,f⟩
  rcases(h s d).1 f with⟨rfl,rfl⟩|⟨c,i⟩
  ·exact .inl ⟨e,rfl⟩
  ·exact .inr ⟨fun a=>c (gv (e.symm.trans a)),s,e,i⟩
 ·rintro(⟨rfl,rfl⟩|⟨c,s,e,f⟩)
  ·exact⟨r,rfl,(h r d).2 (.inl ⟨rfl,rfl⟩)⟩
  ·exact⟨s,e,(h s d).2 (.inr ⟨fun a=>c (by rw[e,a]),f⟩)⟩
def cm:List UInt8→List UInt8→Nat
 |a::x,b::y=>if a=b then cm x y+1 else 0
 |_,_=>0
theorem HZ:∀(x y:List UInt8),cm x y≤x.length∧cm x y≤y.length
 | [],_=>by simp[cm]
 |_::_,[]=>by simp[cm]
 |a::x,b::y=>by unfold cm;have:=HZ x y;split<;>simp<;>omega
theorem DS:∀(x y:List UInt8),x.take (cm x y)=y.take (cm x y)
 | [],_=>by simp[cm]
 |_::_,[]=>by simp[cm]
 |a::x,b::y=>by
  unfold cm;split
  ·rename_i e;rw[eZ,eZ,DS x y,e]
  ·simp
theorem DT:∀(x y:List UInt8),cm x y<x.length→cm x y<y.length→hd (x.drop (cm x y))≠hd (y.drop (cm x y))
 | [],_=>by simp[cm]
 |_::_,[]=>by simp[cm]
 |a::x,b::y=>by
  unfold cm;split
  ·rename_i e
   intro d c;rw[List.length_cons]at d c;rw[gc,gc];exact DT x y (by omega) (by omega)
  ·rename_i e
   intro _ _ h;exact e (ma.1 h)
theorem IE{x y:List UInt8}(hx:x≠[])(c:y≠[])(h:hd x=hd y):0<cm x y:=by
 match x,y,hx,c with
 |a::x,b::y,_,_=>
  unfold cm;rw[if_pos (show a=b from ma.1 h)]
  omega
theorem Ew{lab:List UInt8}{w:Option ByteArray}{F:Fo}(c:Nat):∀k v,vd (lab.take c,none,.cons (lab.drop c) w F .nil) k v↔vd (lab,w,F) k v:=by
 intro k v;constructor
 ·rintro⟨r,e,⟨_,h⟩|(⟨s,rfl,h⟩|h)⟩
  ·cases h
  ·exact⟨s,by rw[e];simp only;rw[←aj,bC],h⟩
  ·exact h.elim
 ·rintro⟨s,e,h⟩
  exact⟨lab.drop c++s,by rw[e];simp only;rw[←aj,bC],.inr (.inl ⟨s,rfl,h⟩)⟩
theorem Gm{lab r:List UInt8}{w g:Option ByteArray}{F F':Fo}{v:ByteArray}(c:lab≠[])(k:w.isSome∨2≤F.toL.length)(j:ff F)(a:r≠[]→hd r≠hd lab)(h:oF (rc none (.cons lab w F .nil)) (rc g F') r v):Br (rc g F'):=by
 by_cases e:r= []
 ·subst e
  exact .inl ⟨v,(h [] v).2 (.inl ⟨rfl,rfl⟩)⟩
 ·have hc:ff (.cons lab w F .nil):=⟨c,k,j,fun n m=>by simp[Fo.toL]at m,trivial⟩
  obtain⟨s,u,i⟩:=lG hc _ (aq ..);simp only at i;have f:hd (lab++s)=hd lab:=ox c;refine .inr ⟨r,lab++s,v,u,(h r v).2 (.inl ⟨rfl,rfl⟩),(h _ u).2 (.inr ⟨fun d=>a e (by rw[←d,f]),.inr (.inl ⟨s,rfl,i⟩)⟩),e,fun d=>c (List.append_eq_nil_iff.1 d).1,by rw[f];exact a e⟩
theorem HF{P d:List UInt8→ByteArray→Prop}{k:List UInt8}{v:ByteArray}(g:Br P)(h:oF P d k v):Br d:=by
 have keep:∀j u,P j u→∃c,d j c:=fun j u f=>by
  by_cases e:j=k
  ·exact⟨v,(h j v).2 (.inl ⟨e,rfl⟩)⟩
  ·exact⟨u,(h j u).2 (.inr ⟨e,f⟩)⟩
 rcases g with⟨u,n⟩|⟨j,k',u,c,f,m,r⟩
 ·obtain⟨c,h'⟩:=keep [] u n
  exact .inl ⟨c,h'⟩
 ·obtain⟨a,i⟩:=keep j u f
  obtain⟨b,g⟩:=keep k' c m;exact .inr ⟨j,k',a,b,i,g,r⟩
end Go.Proofs
namespace Go.Proofs
open Go.Lift
theorem oN{β:Type}{g:Nat→Option β}{i:Nat}(h:g i=none):upd g i none=g:=by
 funext j;unfold upd;split
 ·rename_i e;rw[e,h]
 ·rfl
theorem cU{h:ac}{b:Nat}{c:Array Value}{t:TypeId}{i:Nat}(a:h[b]? =some (.cells c t (0,0))):bc h ⟨b,0+i,none⟩=c[i]?:=by rw[aw];exact aE a
theorem Hd{h:ac}{b:Nat}{c:Array Value}{t:TypeId}{i:Nat}(a:h[b]? =some (.cells c t (0,0))) (hi:i<c.size):Wr h ⟨b,0+i,none⟩:=by rw[aw];exact ge a hi
theorem zZ{h:ac}{b:Nat}{c c':Array Value}{t:TypeId}{i:Nat}{v:Value}{k:ac→Prop}(f:h[b]? =some (.cells c t (0,0))) (e:c.setIfInBounds i v=c')
 (g:∀h',h'[b]? =some (.cells c' t (0,0))→Upd (· =b) h h'→k h'):At (hset h ⟨b,i,none⟩ v) k:=u4 f fun h' a d=>g h' (e▸a) d
theorem DP{M:Nat→Prop}{h:ac}{b d n:Nat}{sp sk:SliceV}{s:Slots}{ow:Option Addr}(o:OwnN M h b d n sp sk s ow){i:Nat}(hi:i<32){K:Unit→ac→Prop}
  (W:∀h' F G sp' sk',OwnN M h' b F G sp' sk' ⟨upd s.p i none,upd s.k i none⟩ ow→Upd M h h'→K () h'):HC PG hJ [.pointer (some ⟨b,0,none⟩),.int .i64 i] [] K h:=by
 obtain⟨A,B,V,Z,a,m⟩:=o.ex;have bits:=o.bits;refine tS _ i ?_;unfold nZ dL dx co jI Ff;have U:∀k:Nat,k≤100→IntKind.wrap .i64 ((k:Int)+1)=((k+1:Nat):Int):=fun k W=>by rw[pL (by omega)];omega
 have hc1:=sA i d;have hc2:=sA i n;have P:∀x,A x→M x∨h.size≤x:=fun x hx=>.inl (a x hx).1
 refine Join.intro (fun _ h'=>∃sp',h'[b]? =some (.cells (dN d n sp' sk false ow) aQ (0,0))∧OwnS jq 2 ah A h' sp' (fm (upd s.p i none) 32)∧OwnS mP 1 aW B h' sk (fm s.k 32)∧Upd M h h') (fun R v=>?_) ?_
 ·refine⟨_,rfl,_,cU (i:=0) o.blk,uO bits.d32 hi ?_⟩
  rw[bits.dp i hi];cases hp:s.p i with
  |none=>exact ak.2 (v _ _ ⟨sp,o.blk,by rw[oN hp];exact V,Z,Upd.refl _ _⟩)
  |some y=>
   refine aA.2 ⟨_,rfl,_,cU (i:=0) o.blk,lr bits.d32 hi ⟨_,rfl,sp,cU (i:=2) o.blk,?_⟩⟩;rw[U _ (by omega)];refine CZ V (zk hi bits.dp hp) (by have:=xH (g:=s.p);omega) fun w Y t f=>?_
   rw[←F8 hi bits.dp hp]at t;have b2:=f.get o.blk fun Q=>(a b Q).2.2.1 rfl
   refine⟨_,rfl,Hd (i:=2) b2 (show 2<6 by decide),zZ (i:=2) (c':=dN d n w sk false ow) b2 rfl fun X b3 j=>?_⟩
   refine v _ _ ⟨w,b3,t.upd j fun x hx e=>(a x hx).2.2.1 e,(Z.upd f fun x hx N=>(a x N).2.1 hx).upd j fun x hx e=>(m x hx).2.1 e,(f.mono P).tr (j.mono fun x e=>.inl (e▸o.mb))⟩
 rintro _ h1 ⟨q,b1,C,D,E⟩;refine Join.intro (fun _ h'=>∃sk',h'[b]? =some (.cells (dN d n q sk' false ow) aQ (0,0))∧OwnS jq 2 ah A h' q (fm (upd s.p i none) 32)∧OwnS mP 1 aW B h' sk' (fm (upd s.k i none) 32)∧Upd M h1 h') (fun R v=>?_) ?_
 ·refine⟨_,rfl,_,cU (i:=1) b1,uO bits.n32 hi ?_⟩
  rw[bits.nk i hi];cases hp:s.k i with
  |none=>exact ak.2 (v _ _ ⟨sk,b1,C,by rw[oN hp];exact D,Upd.refl _ _⟩)
  |some y=>
   refine aA.2 ⟨_,rfl,_,cU (i:=1) b1,lr bits.n32 hi ⟨_,rfl,sk,cU (i:=3) b1,?_⟩⟩;rw[U _ (by omega)];refine C0 D (zk hi bits.nk hp) (by have:=xH (g:=s.k);omega) fun w Y t f=>?_
   rw[←F8 hi bits.nk hp]at t;have b2:=f.get b1 fun Q=>(m b Q).2.1 rfl
   refine⟨_,rfl,Hd (i:=3) b2 (show 3<6 by decide),zZ (i:=3) (c':=dN d n q w false ow) b2 rfl fun X b3 j=>?_⟩
   refine v _ _ ⟨w,b3,(C.upd f fun x hx N=>(a x hx).2.1 N).upd j fun x hx e=>(a x hx).2.2.1 e,t.upd j fun x hx e=>(m x hx).2.1 e,(f.mono fun x hx=>.inl (m x hx).1).tr (j.mono fun x e=>.inl (e▸o.mb))⟩
 rintro _ Y ⟨u,b2,I,J,f⟩;refine⟨_,rfl,_,cU (i:=0) b2,_,rfl,_,cU (i:=1) b2,?_⟩;refine wT bits.d32 hi fun F H T=>⟨cU (i:=1) b2,?_⟩
 refine wT bits.n32 hi fun G O L=>?_
 refine⟨_,rfl,Hd (i:=0) b2 (show 0<6 by decide),zZ (i:=0) (c':=dN F n q u false ow) b2 rfl fun X b3 j=>?_⟩
 refine⟨_,rfl,Hd (i:=1) b3 (show 1<6 by decide),zZ (i:=1) (c':=dN F G q u false ow) b3 rfl fun h4 b4 S=>?_⟩
 have p:=j.tr S;have z:=(E.tr (f.tr (p.mono (M':=M) fun x e=>.inl (e▸o.mb)))).size
 refine W h4 F G q u ⟨b4,⟨H,O,fun c hc=>?_,fun c hc=>?_⟩,⟨A,B,I.upd p fun x hx e=>(a x hx).2.2.1 e,J.upd p fun x hx e=>(m x hx).2.1 e,fun x hx=>⟨(a x hx).1,(a x hx).2.1,(a x hx).2.2.1,by have:=(a x hx).2.2.2;omega⟩,fun x hx=>⟨(m x hx).1,(m x hx).2.1,by have:=(m x hx).2.2;omega⟩⟩,o.mb⟩ (E.tr (f.tr (p.mono fun x e=>.inl (e▸o.mb))))
 ·rw[T,bits.dp c hc];simp only[upd];split<;>simp[*]
 ·rw[L,bits.nk c hc];simp only[upd];split<;>simp[*]
end Go.Proofs
namespace Go.Proofs
open Go.Lift
theorem OwnS.setAt{α:Type}{f:α→List Value}{c:Nat}{t:TypeId}{M:Nat→Prop}{h:ac}{s:SliceV}{xs:List α}(i:OwnS f c t M h s xs){k:Nat}(o:k<xs.length)(x:α):
  ∃a,s.a=some a∧M a.block∧qH h (some (adr a (k*c))) 0 (f x)∧OwnS f c t M (jd h (adr a (k*c)) 0 (f x)) s (xs.take k++x::xs.drop (k+1))∧Upd (· =a.block) h (jd h (adr a (k*c)) 0 (f x)):=by
 have m:∀x,(f x).length=c∧0<c:=i.ne;have u:=i.len;have g:=i.cap;rcases i.blk with E|⟨b,e,w,v,hc,z⟩
 ·omega
 have n:((xs.take k).flatMap f).length=k*c:=by rw[ia m,aY,aX (by omega)]
 have C:xs.flatMap f=(xs.take k).flatMap f++(f xs[k]++(xs.drop (k+1)).flatMap f):=by
  rw[←aD,←List.drop_eq_getElem_cons o];exact sy xs k
 rw[C]at hc;have y:=(m xs[k]).1;have F:=(m x).1;have d:(xs.take k++x::xs.drop (k+1)).flatMap f=(xs.take k).flatMap f++(f x++(xs.drop (k+1)).flatMap f):=by rw[List.flatMap_append,aD]
 generalize (xs.take k).flatMap f=A at n hc d;generalize (xs.drop (k+1)).flatMap f=B at hc d;generalize f xs[k]=X at y hc;have q:k*c+0+(f x).length≤(A++(X++B)++e).length:=by simp only[ae];omega
 have p:adr ⟨b,0,none⟩ (k*c)=⟨b,k*c,none⟩:=by rw[bp,aw]
 refine⟨⟨b,0,none⟩,w,v,?_,?_,?_⟩
 ·rw[p]
  refine .inr ⟨_,rfl,fun j D=>?_⟩
  rw[bp];exact ge hc (by rw[List.size_toArray];omega)
 ·rw[p,fK (f x) h 0 (k*c) _ hc q]
  refine⟨by simp;omega,m,g,.inr ⟨b,e,w,v,?_,?_⟩⟩
  ·rw[gH hc,d]
   congr 3
   rw[Nat.add_zero,aj A,List.take_left' n,←List.drop_drop,bL n,aj X,bL (by omega)];simp only[aj]
  ·exact z
 ·rw[p,fK (f x) h 0 (k*c) _ hc q]
  exact Upd.set h _ rfl
theorem OwnN.node{M W:Nat→Prop}{h:ac}{b d n:Nat}{sp sk:SliceV}{s:Slots}{ow:Option Addr}(o:OwnN M h b d n sp sk s ow)(a:∀x,M x→¬W x):NodeAt W h b s:=by
 obtain⟨A,B,c,e,f,g⟩:=o.ex;exact⟨⟨d,n,sp,sk,ow,o.blk,o.bits,c.sl fun x hx _=>a _ (f x hx).1,e.sl fun x hx _=>a _ (g x hx).1,c.cap,e.cap⟩,a _ o.mb⟩
theorem Bw{W:Nat→Prop}{h:ac}{b:Nat}{s:Slots}(nd:NodeAt W h b s){i:Nat}(hi:i<32){K:Bool→ac→Prop}(c:K true h):HC PG hO [.pointer (some ⟨b,0,none⟩),.int .i64 i] [.c .bool] K h:=by
 obtain⟨d,n,sp,sk,ow,a,_⟩:=nd.ex;refine tT _ i ?_;unfold oa kI;refine aA.2 ⟨_,rfl,_,cU (i:=4) a,aA.2 ?_⟩;refine aU (fun _=>?_) fun h=>absurd (Int.natCast_nonneg i) h
 rw[decide_eq_true (by omega)];exact c
theorem Du{β:Type}{g:Nat→Option β}{i:Nat}{x y:Option β}:upd (upd g i x) i y=upd g i y:=by
 funext j;unfold upd;split<;>rfl
theorem ig{β:Type}{g:Nat→Option β}{i:Nat}{x:Option β}:upd g i x i=x:=by simp[upd]
theorem pr{W:Nat→Prop}{h:ac}{b:Nat}{s:Slots}(nd:NodeAt W h b s)(hW:∀x,W x→x<h.size){i:Nat}(hi:i<32)(hx:∀y,s.p i=some y→s.k i=none)(p:Pr){K:Option Addr→ac→Prop}
  (hk:∀h' b',NodeAt W h' b' ⟨upd s.p i (some p),upd s.k i none⟩→Upd No h h'→K (some ⟨b',0,none⟩) h'):
  HC PG dW [.pointer (some ⟨b,0,none⟩),.pointer none,.int .i64 i,.agg #[.string p.1,.string p.2]] [.c .ptr] K h:=by
 refine ru _ none i p ?_;unfold mr fc aB wY vt dL wE dx co pk jI IV;have k1:=Upd.hnew No h [.string p.1,.string p.2] ah;have b1:=bh h [.string p.1,.string p.2] ah;refine aR ?_;simp only[bS h];generalize hnew h [.string p.1,.string p.2] ah=h1 at k1 b1;have z1:=bG b1;have R:=nd.upd k1 fun _ h=>h.elim
 refine Bw R hi (ak.2 ?_);refine FM R fun h2 d n sp sk o G=>?_
 have bits:=o.bits;obtain⟨A,B,hA,hB,q,H⟩:=o.ex;have F:=k1.tr G;have u:=G.get0 b1;have O:∀x,h1.size≤x→¬W x:=fun x hx hw=>by have:=hW x hw;omega
 refine⟨_,rfl,_,cU (i:=0) o.blk,uO bits.d32 hi ?_⟩;rw[bits.dp i hi];cases hp:s.p i with
 |some y=>
  refine aA.2 ⟨_,rfl,sp,cU (i:=2) o.blk,_,rfl,_,cU (i:=0) o.blk,p.1,by rw[bp,aE u];rfl,p.2,by rw[bp,aE u];rfl,?_⟩
  refine lr bits.d32 hi ⟨⟨by rw[bp,aE u];rfl,by rw[bp,aE u];rfl⟩,cU (i:=2) o.blk,?_⟩
  have hlt:=zk hi bits.dp hp;obtain⟨a,ha,J,hw,U,m⟩:=OwnS.setAt hA hlt p;have hlen:=hA.len;refine⟨by omega,a,ha,?_⟩;rw[aM];refine⟨hw,aR ?_⟩;rw[←F6 hi bits.dp hp]at U;have ob:=m.get o.blk fun e=>(q _ J).2.2.1 e.symm
  have z3:=m.size;have C:OwnN (fun x=>h1.size≤x) _ h1.size d n sp sk ⟨upd s.p i (some p),upd s.k i none⟩ none:=⟨ob,⟨bits.d32,bits.n32,fun c hc=>by
    rw[bits.dp c hc];simp only[upd];split
    ·rename_i e;rw[e,hp];rfl
    ·rfl,fun c hc=>by rw[bits.nk c hc,oN (hx y hp)]⟩,
   ⟨A,B,U,by rw[oN (hx y hp)];exact hB.upd m fun x hx e=>(q _ J).2.1 (e▸hx),fun x hx=>⟨(q x hx).1,(q x hx).2.1,(q x hx).2.2.1,by have:=(q x hx).2.2.2;omega⟩,fun x hx=>⟨(H x hx).1,(H x hx).2.1,by have:=(H x hx).2.2;omega⟩⟩,o.mb⟩
  refine hk _ _ (C.node O) (F.trans m fun x hx=>.inr ?_)
  have:=(q _ J).1;have hx:x=a.block:=hx;omega
 |none=>
  refine ak.2 ⟨_,rfl,DP o hi fun E d3 n3 z I C m=>?_⟩
  have f:=C.bits;obtain⟨A3,B3,hA3,hB3,j,k⟩:=C.ex;have z2:=G.size;have z3:=m.size;have v:=m.get u (show ¬h1.size≤h.size by omega)
  have Z:Upd No h E:=F.trans m fun x hx=>.inr (Nat.le_trans (Nat.le_of_lt z1) hx)
  refine⟨_,rfl,z,cU (i:=2) C.blk,_,rfl,_,cU (i:=0) C.blk,p.1,by rw[bp,aE v];rfl,p.2,by rw[bp,aE v];rfl,?_⟩
  have V:=Upd.hnew No E [.string p.1,.string p.2] ah;have b4:=bh E [.string p.1,.string p.2] ah;have z4:=eO E [.string p.1,.string p.2] ah;have N:=C.upd V fun _ h=>h.elim
  have S:HC PG bT [.slice z.a z.len z.cap,.int .i64 (pj i d3),.slice (some (aZ E)) 1 1] [.c .slice] (fun(L:SliceV) T=>
       ∃a34:Addr,some (⟨h1.size,0,none⟩:Addr)=some a34∧
       (Wr T (adr (adr a34 0) 2)∧
        At (hset T (adr (adr a34 0) 2) (.slice L.a L.len L.cap)) (fun Y=>
         ∃a36:Addr,some (⟨h1.size,0,none⟩:Addr)=some a36∧
         ∃v37:Int,bc Y (adr (adr a36 0) 0)=some (.int .u32 v37)∧
         HC PG de [.int .u32 v37,.int .i64 i] [.c (.int .u32)] (fun(e38:Int) Q=>
          ∃a40:Addr,some (⟨h1.size,0,none⟩:Addr)=some a40∧
          (Wr Q (adr (adr a40 0) 0)∧
           At (hset Q (adr (adr a40 0) 0) (.int .u32 e38)) (fun h41=>
            K (some ⟨h1.size,0,none⟩) h41))) Y))) (hnew E [.string p.1,.string p.2] ah):=by
   generalize hnew E [.string p.1,.string p.2] ah=h4 at V b4 z4 N;rw[bS E];have hA4:=(hA3.upd V fun _ _ h=>h).more (M':=fun x=>A3 x∨h4.size≤x) fun x hx=>.inl hx
   have hpn:(⟨upd s.p i none,upd s.k i none⟩:Slots).p i=none:=ig;refine CN hA4 (HX hi f.dp) (by have:=xH (g:=(⟨upd s.p i none,upd s.k i none⟩:Slots).p);omega) (x:=p) b4 (fun e=>e.elim (fun e=>by have:=(j _ e).2.2.2;omega) fun e=>by omega) (fun x hx=>.inr hx) fun s5 h5 X D=>?_
   rw[←F7 hi f.dp hpn p]at X;have hbl:h1.size<E.size:=bG C.blk;have b5:=D.get N.blk fun e=>e.elim (fun e=>(j _ e).2.2.1 rfl) fun e=>by omega
   refine⟨_,rfl,Hd (i:=2) b5 (show 2<6 by decide),zZ (i:=2) (c':=dN d3 n3 s5 I false none) b5 rfl fun h6 b6 hu6=>?_⟩
   refine⟨_,rfl,_,cU (i:=0) b6,Dr f.d32 hi fun w hw hwt=>?_⟩
   refine⟨_,rfl,Hd (i:=0) b6 (show 0<6 by decide),zZ (i:=0) (c':=dN w n3 s5 I false none) b6 rfl fun h7 b7 hu7=>?_⟩
   have t:=hu6.tr hu7;have z5:=D.size;have z7:=t.size;have P:=X.within;have e1:(⟨upd (⟨upd s.p i none,upd s.k i none⟩:Slots).p i (some p),upd s.k i none⟩:Slots)=⟨upd s.p i (some p),upd s.k i none⟩:=by rw[Du]
   have o7:OwnN (fun x=>h1.size≤x) h7 h1.size w n3 s5 I ⟨upd s.p i (some p),upd s.k i none⟩ none:=by
    rw[←e1];refine⟨b7,⟨hw,f.n32,fun c hc=>?_,f.nk⟩,⟨fun x=>(A3 x∨h4.size≤x)∧x<h5.size,B3,P.upd t fun x hx e=>?_,((hB3.upd V fun _ _ h=>h).upd D fun x hx e=>?_).upd t fun x hx e=>(k x hx).2.1 e,fun x hx=>⟨?_,?_,?_,by omega⟩,fun x hx=>⟨(k x hx).1,(k x hx).2.1,by have:=(k x hx).2.2;omega⟩⟩,o.mb⟩
    ·rw[hwt,f.dp c hc];simp only[upd];split<;>simp[*]
    ·have e:x=h1.size:=e
     rcases hx.1 with h|h
     ·exact(j x h).2.2.1 e
     ·omega
    ·rcases e with e|e
     ·exact(j x e).2.1 hx
     ·have:=(k x hx).2.2;omega
    ·rcases hx.1 with h|h
     ·exact(j x h).1
     ·omega
    ·rcases hx.1 with h|h
     ·exact(j x h).2.1
     ·exact fun hb=>by have:=(k x hb).2.2;omega
    ·rcases hx.1 with h|h
     ·exact(j x h).2.2.1
     ·omega
   refine hk _ _ (o7.node O) (((Z.tr V).trans D fun x hx=>.inr ?_).trans t fun x hx=>.inr ?_)
   ·rcases hx with h|h
    ·have:=(j x h).1;omega
    ·omega
   ·have hx:x=h1.size:=hx
    omega
  refine⟨lr f.d32 hi ⟨⟨by rw[bp,aE v];rfl,by rw[bp,aE v];rfl⟩,cU (i:=2) C.blk,aR ⟨cU (i:=2) N.blk,S⟩⟩,aR ⟨cU (i:=0) N.blk,cU (i:=2) N.blk,lr f.d32 hi ⟨cU (i:=2) N.blk,S⟩⟩⟩
end Go.Proofs
namespace Go.Proofs
open Go.Lift
theorem uD{W:Nat→Prop}{h:ac}{b:Nat}{s:Slots}(nd:NodeAt W h b s)(hW:∀x,W x→x<h.size){i:Nat}(hi:i<32)(hx:∀y,s.k i=some y→s.p i=none)(j:Addr){K:Option Addr→ac→Prop}
  (hk:∀h' b',NodeAt W h' b' ⟨upd s.p i none,upd s.k i (some (some j))⟩→Upd No h h'→K (some ⟨b',0,none⟩) h'):
  HC PG fu [.pointer (some ⟨b,0,none⟩),.pointer none,.int .i64 i,.pointer (some j)] [.c .ptr] K h:=by
 refine sL _ none i (some j) ?_;unfold nb fc vt dL dx co Fg pk jI;refine ak.2 ?_;refine Bw nd hi (ak.2 ?_);refine FM nd fun h2 d n sp sk o G=>?_
 have bits:=o.bits;obtain⟨A,B,hA,hB,t,u⟩:=o.ex;have L:∀x,h.size≤x→¬W x:=fun x hx E=>by have:=hW x E;omega
 refine⟨_,rfl,_,cU (i:=1) o.blk,uO bits.n32 hi ?_⟩;rw[bits.nk i hi];cases hp:s.k i with
 |some y=>
  refine aA.2 ⟨_,rfl,sk,cU (i:=3) o.blk,_,rfl,_,cU (i:=1) o.blk,?_⟩;refine lr bits.n32 hi ⟨cU (i:=3) o.blk,?_⟩;have hlt:=zk hi bits.nk hp;obtain⟨a,ha,H,E,Q,p⟩:=OwnS.setAt hB hlt (some j);have hlen:=hB.len;refine⟨by omega,a,ha,?_⟩;rw[aM];have hw1:Wr h2 (adr a (pj i n*1)):=by
   rcases E with E|⟨b',hb',E⟩
   ·cases E
   ·cases hb';exact E 0 (by simp)
  refine⟨hw1,aR ?_⟩;rw[←F6 hi bits.nk hp]at Q;have ob:=p.get o.blk fun e=>(u _ H).2.1 e.symm
  have z3:=p.size;have z:OwnN (fun x=>h.size≤x) _ h.size d n sp sk ⟨upd s.p i none,upd s.k i (some (some j))⟩ none:=⟨ob,⟨bits.d32,bits.n32,fun c hc=>by rw[bits.dp c hc,oN (hx y hp)],fun c hc=>by
    rw[bits.nk c hc];simp only[upd];split
    ·rename_i e;rw[e,hp];rfl
    ·rfl⟩,
   ⟨A,B,by rw[oN (hx y hp)];exact hA.upd p fun x hx e=>(t _ hx).2.1 (e▸H),Q,fun x hx=>⟨(t x hx).1,(t x hx).2.1,(t x hx).2.2.1,by have:=(t x hx).2.2.2;omega⟩,fun x hx=>⟨(u x hx).1,(u x hx).2.1,by have:=(u x hx).2.2;omega⟩⟩,o.mb⟩
  refine hk _ _ (z.node L) (G.trans p fun x hx=>.inr ?_)
  have:=(u _ H).1;have hx:x=a.block:=hx;omega
 |none=>
  refine ak.2 ⟨_,rfl,DP o hi fun D d3 n3 F v z p=>?_⟩
  have f:=z.bits;obtain⟨A3,B3,hA3,hB3,k,m⟩:=z.ex;have z2:=G.size;have z3:=p.size;have U:Upd No h D:=G.trans p fun x hx=>.inr hx
  refine⟨_,rfl,v,cU (i:=3) z.blk,_,rfl,_,cU (i:=1) z.blk,?_⟩;have R:=Upd.hnew No D [.pointer (some j)] aW;have b4:=bh D [.pointer (some j)] aW;have z4:=eO D [.pointer (some j)] aW;have J:=z.upd R fun _ h=>h.elim
  have O:HC PG bH [.slice v.a v.len v.cap,.int .i64 (pj i n3),.slice (some (aZ D)) 1 1] [.c .slice] (fun(I:SliceV) P=>
       ∃a34:Addr,some (⟨h.size,0,none⟩:Addr)=some a34∧
       (Wr P (adr (adr a34 0) 3)∧
        At (hset P (adr (adr a34 0) 3) (.slice I.a I.len I.cap)) (fun T=>
         ∃a36:Addr,some (⟨h.size,0,none⟩:Addr)=some a36∧
         ∃v37:Int,bc T (adr (adr a36 0) 1)=some (.int .u32 v37)∧
         HC PG de [.int .u32 v37,.int .i64 i] [.c (.int .u32)] (fun(e38:Int) N=>
          ∃a40:Addr,some (⟨h.size,0,none⟩:Addr)=some a40∧
          (Wr N (adr (adr a40 0) 1)∧
           At (hset N (adr (adr a40 0) 1) (.int .u32 e38)) (fun X=>
            K (some ⟨h.size,0,none⟩) X))) T))) (hnew D [.pointer (some j)] aW):=by
   generalize hnew D [.pointer (some j)] aW=h4 at R b4 z4 J;rw[bS D];have hB4:=(hB3.upd R fun _ _ h=>h).more (M':=fun x=>B3 x∨h4.size≤x) fun x hx=>.inl hx
   have hpn:(⟨upd s.p i none,upd s.k i none⟩:Slots).k i=none:=ig;refine CO hB4 (HX hi f.nk) (by have:=xH (g:=(⟨upd s.p i none,upd s.k i none⟩:Slots).k);omega) (x:=some j) b4 (fun e=>e.elim (fun e=>by have:=(m _ e).2.2;omega) fun e=>by omega) (fun x hx=>.inr hx) fun s5 h5 S C=>?_
   rw[←F7 hi f.nk hpn (some j)]at S;have hbl:h.size<D.size:=bG z.blk;have b5:=C.get J.blk fun e=>e.elim (fun e=>(m _ e).2.1 rfl) fun e=>by omega
   refine⟨_,rfl,Hd (i:=3) b5 (show 3<6 by decide),zZ (i:=3) (c':=dN d3 n3 F s5 false none) b5 rfl fun h6 Z hu6=>?_⟩
   refine⟨_,rfl,_,cU (i:=1) Z,Dr f.n32 hi fun w E hwt=>?_⟩
   refine⟨_,rfl,Hd (i:=1) Z (show 1<6 by decide),zZ (i:=1) (c':=dN d3 w F s5 false none) Z rfl fun h7 b7 Y=>?_⟩
   have q:=hu6.tr Y;have z5:=C.size;have z7:=q.size;have V:=S.within;have e1:(⟨upd s.p i none,upd (⟨upd s.p i none,upd s.k i none⟩:Slots).k i (some (some j))⟩:Slots)=⟨upd s.p i none,upd s.k i (some (some j))⟩:=by rw[Du]
   have o7:OwnN (fun x=>h.size≤x) h7 h.size d3 w F s5 ⟨upd s.p i none,upd s.k i (some (some j))⟩ none:=by
    rw[←e1];refine⟨b7,⟨f.d32,E,f.dp,fun c hc=>?_⟩,⟨A3,fun x=>(B3 x∨h4.size≤x)∧x<h5.size,((hA3.upd R fun _ _ h=>h).upd C fun x hx e=>?_).upd q fun x hx e=>(k x hx).2.2.1 e,V.upd q fun x hx e=>?_,fun x hx=>⟨(k x hx).1,?_,(k x hx).2.2.1,by have:=(k x hx).2.2.2;omega⟩,fun x hx=>⟨?_,?_,by omega⟩⟩,o.mb⟩
    ·rw[hwt,f.nk c hc];simp only[upd];split<;>simp[*]
    ·rcases e with e|e
     ·exact(k x hx).2.1 e
     ·have:=(k x hx).2.2.2;omega
    ·have e:x=h.size:=e
     rcases hx.1 with h|h
     ·exact(m x h).2.1 e
     ·omega
    ·rintro⟨h|h,_⟩
     ·exact(k x hx).2.1 h
     ·have:=(k x hx).2.2.2;omega
    ·rcases hx.1 with h|h
     ·exact(m x h).1
     ·omega
    ·rcases hx.1 with h|h
     ·exact(m x h).2.1
     ·omega
   refine hk _ _ (o7.node L) (((U.tr R).trans C fun x hx=>.inr ?_).trans q fun x hx=>.inr ?_)
   ·rcases hx with h|h
    ·exact(m x h).1
    ·omega
   ·have hx:x=h.size:=hx
    omega
  refine⟨lr f.n32 hi ⟨cU (i:=3) z.blk,aR ⟨cU (i:=3) J.blk,O⟩⟩,aR ⟨cU (i:=1) J.blk,cU (i:=3) J.blk,lr f.n32 hi ⟨cU (i:=3) J.blk,O⟩⟩⟩
end Go.Proofs
namespace Go.Proofs
open Go.Lift
theorem DQ{h:ac}{b d n:Nat}{sp sk:SliceV}{c:Bool}{ow:Option Addr}(a:h[b]? =some (.cells (dN d n sp sk c ow) aQ (0,0))) {K:Int→ac→Prop} (e:K (d:Int) h):HC PG iT [.pointer (some ⟨b,0,none⟩)] [.c (.int .u32)] K h:=by
 refine vl _ ?_;unfold pg dx;exact ak.2 ⟨_,rfl,_,cU (i:=0) a,e⟩
theorem Bm{h:ac}{b d n:Nat}{sp sk:SliceV}{c:Bool}{ow:Option Addr}(a:h[b]? =some (.cells (dN d n sp sk c ow) aQ (0,0))) {K:Int→ac→Prop} (e:K (n:Int) h):HC PG hT [.pointer (some ⟨b,0,none⟩)] [.c (.int .u32)] K h:=by
 refine tW _ ?_;unfold oe dx;exact ak.2 ⟨_,rfl,_,cU (i:=1) a,e⟩
theorem lF{h:ac}{b d n:Nat}{sp sk:SliceV}{a:Bool}{ow:Option Addr}(c:h[b]? =some (.cells (dN d n sp sk a ow) aQ (0,0))) {K:Bool→ac→Prop} (e:K a h):HC PG eK [.pointer (some ⟨b,0,none⟩)] [.c .bool] K h:=by
 refine qK _ ?_;unfold lR kI;exact aA.2 ⟨_,rfl,_,cU (i:=4) c,e⟩
def Hq(o:Option Pr):Pr:=o.getD (⟨#[]⟩,⟨#[]⟩)
theorem DE{h:ac}{b:Nat}{q p:Pr}(a:h[b]? =some (.cells #[.string q.1,.string q.2] ah (0,0))) {k:ac→Prop}
  (c:∀h',h'[b]? =some (.cells #[.string p.1,.string p.2] ah (0,0))→Upd (· =b) h h'→k h'):qH h (some ⟨b,0,none⟩) 0 [.string p.1,.string p.2]∧At (jd h ⟨b,0,none⟩ 0 [.string p.1,.string p.2]) k:=by
 have e:=fK [.string p.1,.string p.2] h 0 0 [.string q.1,.string q.2] a (by simp);refine⟨.inr ⟨_,rfl,fun j d=>by rw[bp];exact ge a (by simp at d⊢;omega)⟩,aR ?_⟩
 rw[e];refine c _ ?_ (Upd.set h _ rfl);rw[gH a];rfl
theorem FT{W:Nat→Prop}{h:ac}{b:Nat}{s:Slots}(nd:NodeAt W h b s){i:Nat}(hi:i<32){K:Pr×Bool→ac→Prop}(k:∀h',Upd No h h'→K (Hq (s.p i),(s.p i).isSome) h'):
  HC PG kX [.pointer (some ⟨b,0,none⟩),.int .i64 i] [.agg [.str,.str],.c .bool] K h:=by
 refine vi _ i ?_;unfold pe fc eH aB gw uw wY dx co jI;obtain⟨d,n,sp,sk,ow,A,bits,j,t,v,q⟩:=nd.ex;have k1:=Upd.hnew No h [.string (⟨#[]⟩:ByteArray),.string (⟨#[]⟩:ByteArray)] ah;have b1:=bh h [.string (⟨#[]⟩:ByteArray),.string (⟨#[]⟩:ByteArray)] ah;refine aR ?_;simp only[bS h];generalize hnew h [.string (⟨#[]⟩:ByteArray),.string (⟨#[]⟩:ByteArray)] ah=h1 at k1 b1
 have c:=k1.get0 A;have g:h1[h.size]? =some (.cells #[.string GN.1,.string GN.2] ah (0,0)):=b1;refine DQ c (uO bits.d32 hi ?_);rw[bits.dp i hi];cases hp:s.p i with
 |none=>
  rw[hp]at k;refine aA.2 (DE (p:=GN) g fun w b2 e=>⟨_,by rw[bp,aE b2];rfl,_,by rw[bp,aE b2];rfl,k _ (k1.trans e fun x hx=>.inr (db hx.symm))⟩)
 |some y=>
  rw[hp]at k;refine ak.2 ⟨_,rfl,sp,cU (i:=2) c,_,rfl,_,cU (i:=0) c,lr bits.d32 hi ⟨cU (i:=2) c,?_⟩⟩;have z:=zk hi bits.dp hp;have f:=j.upd k1 fun _ h=>h.elim
  obtain⟨a,u,_,o⟩:=f.at (F9 hi bits.dp hp);have m:=j.len;refine⟨by omega,a,u,y.1,o 0 _ rfl,y.2,o 1 _ rfl,?_⟩;refine DE (p:=y) g fun w b2 e=>⟨_,by rw[bp,aE b2];rfl,_,by rw[bp,aE b2];rfl,k _ (k1.trans e fun x hx=>.inr (db hx.symm))⟩
theorem Hg{W:Nat→Prop}{h:ac}{b:Nat}{s:Slots}(nd:NodeAt W h b s){i:Nat}(hi:i<32){K:Option Addr×Bool→ac→Prop}(e:K ((s.k i).getD none,(s.k i).isSome) h):
  HC PG l5 [.pointer (some ⟨b,0,none⟩),.int .i64 i] [.c .ptr,.c .bool] K h:=by
 refine wt _ i ?_;unfold pZ bA fc dx co jI;obtain⟨d,n,sp,sk,ow,f,bits,q,c,o,j⟩:=nd.ex;refine Bm f (uO bits.n32 hi ?_);rw[bits.nk i hi];cases hp:s.k i with
 |none=>rw[hp]at e;exact aA.2 e
 |some y=>
  rw[hp]at e;refine ak.2 ⟨_,rfl,sk,cU (i:=3) f,_,rfl,_,cU (i:=1) f,lr bits.n32 hi ⟨cU (i:=3) f,?_⟩⟩;have p:=zk hi bits.nk hp;obtain⟨a,k,_,m⟩:=c.at (F9 hi bits.nk hp);have g:=c.len;exact⟨by omega,a,k,y,m 0 _ rfl,e⟩
theorem xw{W:Nat→Prop}{h:ac}{b d n:Nat}{sp sk:SliceV}{c:Bool}{ow:Option Addr}{l:List Pr}(e:h[b]? =some (.cells (dN d n sp sk c ow) aQ (0,0))) (f:Sl jq 2 W h sp l) (g:l.length≤1000000000) {K:SliceV→ac→Prop}
  (a:∀s' h',OwnS jq 2 ah (fun x=>h.size≤x) h' s' l→Upd No h h'→K s' h'):HC PG fU [.pointer (some ⟨b,0,none⟩)] [.c .slice] K h:=by
 refine tU _ ?_;unfold oc co;exact ak.2 ⟨_,rfl,sp,cU (i:=2) e,uV f (by omega) a⟩
theorem Hm{W:Nat→Prop}{h:ac}{b d n:Nat}{sp sk:SliceV}{c:Bool}{ow:Option Addr}{l:List (Option Addr)}(e:h[b]? =some (.cells (dN d n sp sk c ow) aQ (0,0))) (f:Sl mP 1 W h sk l) (g:l.length≤1000000000) {K:SliceV→ac→Prop}
  (a:∀s' h',OwnS mP 1 aW (fun x=>h.size≤x) h' s' l→Upd No h h'→K s' h'):HC PG kY [.pointer (some ⟨b,0,none⟩)] [.c .slice] K h:=by
 refine vj _ ?_;unfold pf co;exact ak.2 ⟨_,rfl,sk,cU (i:=3) e,uW f (by omega) a⟩
structure BuckAt(W:Nat→Prop)(h:ac)(b:Nat)(l:List Pr):Prop where
 ex:∃sp sk ow,h[b]? =some (.cells (dN 0 0 sp sk true ow) aQ (0,0))∧Sl jq 2 W h sp l∧Sl mP 1 W h sk []∧sp.len≤sp.cap∧sk.len≤sk.cap
 nw:¬W b
theorem BuckAt.upd{W M:Nat→Prop}{h h':ac}{b:Nat}{l:List Pr}(n:BuckAt W h b l)(k:Upd M h h')(hm:∀b,M b→W b∨h.size≤b):BuckAt W h' b l:=by
 obtain⟨sp,sk,ow,a,d,e,c,f⟩:=n.ex;exact⟨⟨sp,sk,ow,k.get a (fun g=>(hm _ g).elim n.nw fun h=>by have:=bG a;omega),d.upd k hm,e.upd k hm,c,f⟩,n.nw⟩
theorem Iv{W:Nat→Prop}{h:ac}{b:Nat}{l:List Pr}(z:BuckAt W h b l)(n:dJ l)(p:l.length≤1000000000)(k:ByteArray){K:ByteArray×Bool→ac→Prop}
  (i:∀h' v,Upd No h h'→(di l k=true→(k,v)∈l)→(di l k=false→v=⟨#[]⟩)→K (v,di l k) h'):HC PG pD [.pointer (some ⟨b,0,none⟩),.string k] [.c .str,.c .bool] K h:=by
 refine Dg _ k ?_;unfold yj fc eH vX;obtain⟨sp,sk,ow,x,m,q,s,A⟩:=z.ex;refine xw x m p fun u t j g=>?_
 have d:Sl jq 2 No t u l:=j.sl fun _ _ _ h=>h
 refine DN d n p k fun B c=>?_
 cases ht:di l k with
 |false=>rw[ht]at i;exact aA.2 (i _ _ (g.tr c) (fun h=>by cases h) fun _=>rfl)
 |true=>
  rw[ht]at i;obtain⟨f,e⟩:=Cu n ht;obtain⟨a,y,_,w⟩:=(d.upd c fun _ h=>h.elim).at (List.getElem?_eq_getElem f)
  have o:=d.len;refine ak.2 ⟨by simp only;omega,a,y,_,w 1 _ rfl,i _ _ (g.tr c) (fun _=>?_) fun h=>by cases h⟩
  have:(k,l[pos l k].2)=l[pos l k]:=Prod.ext e.symm rfl;rw[this];exact bK f
theorem Jr{W:Nat→Prop}{h:ac}{b:Nat}{l:List Pr}(a:BuckAt W h b l)(f:dJ l)(g:l.length≤1000000000)(k:ByteArray){K:ByteArray×Bool→ac→Prop}
 (c:∀h' v,Upd No h h'→(di l k=true→(k,v)∈l)→K (v,di l k) h'):HC PG pD [.pointer (some ⟨b,0,none⟩),.string k] [.c .str,.c .bool] K h:=Iv a f g k fun h' v e d _=>c h' v e d
end Go.Proofs
namespace Go.Proofs
open Go.Lift
set_option maxRecDepth 4000 in
theorem Ha{W:Nat→Prop}{h:ac}{b:Nat}{l:List Pr}(nd:BuckAt W h b l)(hn:l.length≤1000000000){K:Option Addr→ac→Prop}
  (C:∀h' sp sk,h'[h.size]? =some (.cells (dN 0 0 sp sk true none) aQ (0,0))→OwnS jq 2 ah (fun x=>h.size<x∧x<h'.size) h' sp l→OwnS mP 1 aW (fun x=>h.size<x∧x<h'.size) h' sk []→Upd No h h'→K (some ⟨h.size,0,none⟩) h'):
  HC PG fL [.pointer (some ⟨b,0,none⟩),.pointer none] [.c .ptr] K h:=by
 obtain⟨sp,sk,ow,a,H,t,O,N⟩:=nd.ex;refine pU _ none ?_;unfold l8 dw nv vt dL dx kI co E6 H5;refine y6 (ak.2 ?_);have c:∀{h:ac} {b:Nat} {c:Array Value} {i:Nat},h[b]? =some (.cells c aQ (0,0))→bc h ⟨b,0+i,none⟩=c[i]?:=fun a=>by rw[aw];exact aE a
 refine⟨_,rfl,_,c (i:=0) a,_,c (i:=1) a,sp,c (i:=2) a,sk,c (i:=3) a,_,c (i:=4) a,_,c (i:=5) a,?_⟩;have k1:=Upd.hnew No h [.int .u32 0,.int .u32 0,.slice none 0 0,.slice none 0 0,.bool false,.pointer none] aQ;have b1:=bh h [.int .u32 0,.int .u32 0,.slice none 0 0,.slice none 0 0,.bool false,.pointer none] aQ;refine aR ?_;simp only[bS h];generalize hnew h [.int .u32 0,.int .u32 0,.slice none 0 0,.slice none 0 0,.bool false,.pointer none] aQ=h1 at k1 b1
 have A:jd h1 ⟨h.size,0,none⟩ 0 [.int .u32 ((0:Nat):Int),.int .u32 ((0:Nat):Int),.slice sp.a sp.len sp.cap,.slice sk.a sk.len sk.cap,.bool true,.pointer ow]=_:=fK _ h1 0 0 _ b1 (by simp);refine⟨.inr ⟨_,rfl,fun j P=>by rw[bp];exact ge b1 (by simp at P⊢;omega)⟩,aR ?_⟩
 rw[A];have b2:=gH (o:=.cells (dN 0 0 sp sk true ow) aQ (0,0)) b1;have q:Upd No h _:=k1.trans (M':=(· =h.size)) (Upd.set h1 (.cells (dN 0 0 sp sk true ow) aQ (0,0)) rfl) fun x hx=>.inr (db hx.symm)
 have y:h.size<(h1.setIfInBounds h.size (.cells (dN 0 0 sp sk true ow) aQ (0,0))).size:=bG b2;have R:h.size≠b:=fun e=>by have:=bG a;omega
 have Q:(Obj.cells (List.take (0+0) [Value.int .u32 0,.int .u32 0,.slice none 0 0,.slice none 0 0,.bool false,.pointer none]++ [Value.int .u32 ((0:Nat):Int),.int .u32 ((0:Nat):Int),.slice sp.a sp.len sp.cap,.slice sk.a sk.len sk.cap,.bool true,.pointer ow]++List.drop (0+0+ [Value.int .u32 ((0:Nat):Int),.int .u32 ((0:Nat):Int),.slice sp.a sp.len sp.cap,.slice sk.a sk.len sk.cap,.bool true,.pointer ow].length) [Value.int .u32 0,.int .u32 0,.slice none 0 0,.slice none 0 0,.bool false,.pointer none]).toArray aQ (0,0))=.cells (dN 0 0 sp sk true ow) aQ (0,0):=rfl
 rw[Q];generalize h1.setIfInBounds h.size (.cells (dN 0 0 sp sk true ow) aQ (0,0))=h2 at b2 q y;have m:=q.get0 a;refine⟨_,rfl,sp,c (i:=2) m,_,rfl,sk,c (i:=3) m,?_⟩;refine uV (H.upd q fun _ h=>h.elim) (by omega) fun s h3 B f=>?_
 refine⟨c (i:=3) (f.get0 m),?_⟩;refine uW ((t.upd q fun _ h=>h.elim).upd f fun _ h=>h.elim) (by simp) fun E Z z g=>?_
 have L:=g.get0 (f.get0 b2);have n:=B.within.upd g fun _ _ h=>h
 have p:=z.within;have U:=f.size;have V:=g.size;have w:∀{h:ac} {c:Array Value} {x i:Nat},h[x]? =some (.cells c aQ (0,0))→i<c.size→Wr h ⟨x,0+i,none⟩:=fun a hi=>by rw[aw];exact ge a hi
 have st:∀{h:ac} {c c':Array Value} {x i:Nat} {v:Value} {k:ac→Prop},h[x]? =some (.cells c aQ (0,0))→c.setIfInBounds i v=c'→(∀h',h'[x]? =some (.cells c' aQ (0,0))→Upd (· =x) h h'→k h')→At (hset h ⟨x,i,none⟩ v) k:=fun a e C=>u4 a fun h' D T=>C h' (e▸D) T
 refine⟨w (i:=2) L (show 2<6 by decide),st (i:=2) (c':=dN 0 0 s sk true ow) L rfl fun Y J G=>?_⟩
 refine⟨w (i:=3) J (show 3<6 by decide),st (i:=3) (c':=dN 0 0 s E true ow) J rfl fun h6 I F=>?_⟩
 refine⟨w (i:=5) I (show 5<6 by decide),st (i:=5) (c':=dN 0 0 s E true none) I rfl fun X S u=>?_⟩
 refine qr (ak.2 ?_);have d:=G.tr (F.tr u);have z7:=d.size;refine C _ s E S ((n.upd d fun x hx e=>?_).more fun x hx=>?_) ((p.upd d fun x hx e=>?_).more fun x hx=>?_) ?_
 ·have e:x=h.size:=e;omega
 ·omega
 ·have e:x=h.size:=e;omega
 ·omega
 ·exact((q.tr f).tr g).trans d fun x hx=>.inr (db hx.symm)
theorem Au{W:Nat→Prop}{h:ac}{b:Nat}{l:List Pr}(D:BuckAt W h b l)(n:∀x,W x→x<h.size)(B:dJ l)(u:l.length≤1000000000)(p:Pr){K:Option Addr→ac→Prop}
  (E:∀h' b',BuckAt W h' b' (Ac l p)→Upd No h h'→K (some ⟨b',0,none⟩) h'):
  HC PG fM [.pointer (some ⟨b,0,none⟩),.pointer none,.agg #[.string p.1,.string p.2]] [.c .ptr] K h:=by
 refine wr _ none p ?_;unfold pX aB rF vt dL wE co;have k1:=Upd.hnew No h [.string p.1,.string p.2] ah;have b1:=bh h [.string p.1,.string p.2] ah;refine aR ?_;simp only[bS h];generalize hnew h [.string p.1,.string p.2] ah=h1 at k1 b1;have I:=bG b1;have j:=D.upd k1 fun _ h=>h.elim
 obtain⟨sp,sk,ow,C,H,y,A,w⟩:=j.ex;refine lF C (ak.2 ?_);refine Ha j u fun N z t b2 s v c=>?_
 have f:=c.get0 b1;refine⟨_,rfl,z,cU (i:=2) b2,p.1,by rw[bp,aE f];rfl,p.2,by rw[bp,aE f];rfl,?_⟩
 refine Cy (s.sl fun _ _ _ h=>h) s.cap B u p fun q L g a=>?_
 have b3:=a.get0 b2;refine⟨_,rfl,Hd (i:=2) b3 (show 2<6 by decide),zZ (i:=2) (c':=dN 0 0 q t true none) b3 rfl fun F G d=>?_⟩
 have J:=bG b2;have m:=g.upd d fun x hx e=>by have e:x=h1.size:=e;omega
 have o:=(v.upd a fun _ _ h=>h).upd d fun x hx e=>by have e:x=h1.size:=e;omega
 refine E F h1.size ⟨⟨q,t,none,G,m.sl fun x hx _ k=>?_,o.sl fun x hx _ k=>?_,g.cap,v.cap⟩,fun k=>?_⟩ (((k1.tr c).tr a).trans d fun x hx=>.inr ?_)
 ·have:=n x k;have:=c.size;omega
 ·have:=n x k;omega
 ·have:=n _ k;omega
 ·have hx:x=h1.size:=hx
  omega
theorem EL{W:Nat→Prop}{h:ac}(a:∀x,W x→x<h.size){K:Option Addr→ac→Prop}(c:∀h' b',BuckAt W h' b' []→Upd No h h'→K (some ⟨b',0,none⟩) h'):HC PG oC [] [.c .ptr] K h:=by
 refine yG ?_;unfold rS;exact c _ _ ⟨⟨⟨none,0,0⟩,⟨none,0,0⟩,none,bh h _ _,Sl.nil ip,Sl.nil mO,ar _,ar _⟩,fun hx=>lx _ (a _ hx)⟩ (Upd.hnew No h _ _)
theorem my{W:Nat→Prop}{h:ac}(a:∀x,W x→x<h.size){K:Option Addr→ac→Prop}(f:∀h' b',NodeAt W h' b' ⟨fun _=>none,fun _=>none⟩→Upd No h h'→K (some ⟨b',0,none⟩) h'):HC PG kg [] [.c .ptr] K h:=by
 refine AF ?_;unfold ul E6;have e:fm (fun _=>(none:Option Pr)) 32= []:=by simp[fm]
 have d:fm (fun _=>(none:Option (Option Addr))) 32= []:=by simp[fm]
 refine f _ _ ⟨⟨0,0,⟨none,0,0⟩,⟨none,0,0⟩,none,bh h _ _,⟨by decide,by decide,fun c _=>by simp,fun c _=>by simp⟩,?_,?_,ar _,ar _⟩,fun hx=>lx _ (a _ hx)⟩ (Upd.hnew No h _ _)
 ·show Sl jq 2 W _ _ (fm (fun _=>none) 32)
  rw[e];exact Sl.nil ip
 ·show Sl mP 1 W _ _ (fm (fun _=>none) 32)
  rw[d];exact Sl.nil mO
end Go.Proofs
namespace Go.Proofs
open Go.Lift
def g9(p:Pr):List Pr→List Pr
 | []=> [p]
 |q::l=>if kl q.1 p.1 then q::g9 p l else if q.1=p.1 then p::l else p::q::l
theorem iP(p q:Pr)(l:List Pr):g9 p (q::l)=if kl q.1 p.1 then q::g9 p l else if q.1=p.1 then p::l else p::q::l:=rfl
theorem wK(p:Pr):∀{l:List Pr},dJ l→Ac l p=g9 p l
 | [],_=>by simp[Ac,g9,pos,di]
 |q::l,f=>by
  have f:=bf.1 f;unfold g9;have a:pos (q::l) p.1=if kl q.1 p.1 then pos l p.1+1 else 0:=by
   unfold pos;rw[List.takeWhile_cons];by_cases h:kl q.1 p.1
   ·rw[if_pos (by simpa using h),if_pos h];rfl
   ·rw[if_neg (by simpa using h),if_neg h];rfl
  have d:di (q::l) p.1=(decide (q.1=p.1)||di l p.1):=by unfold di;rw[List.any_cons]
  by_cases h:kl q.1 p.1
  ·have j:q.1≠p.1:=fun e=>by rw[e]at h;exact dD _ h
   rw[if_pos h,←wK p f.2];unfold Ac;rw[d,a,if_pos h,decide_eq_false j,Bool.false_or];by_cases c:di l p.1=true
   ·rw[if_pos c,if_pos c];rfl
   ·rw[if_neg c,if_neg c];rfl
  ·rw[if_neg h]
   unfold Ac;rw[d,a,if_neg h];by_cases e:q.1=p.1
   ·rw[if_pos e,decide_eq_true e,Bool.true_or,if_pos rfl];rfl
   ·have k:=Aa h e
    have c:di l p.1=false:=by
     unfold di;rw[List.any_eq_false];intro r i g;have g:=of_decide_eq_true g;have:=f.1 r i;rw[g]at this;exact dD _ (lD k this)
    rw[if_neg e,decide_eq_false e,c];rfl
theorem qp{p q:Pr}:∀{l:List Pr},q∈g9 p l→q=p∨q∈l
 | [],h=>by simp[g9]at h;exact .inl h
 |r::l,h=>by
  unfold g9 at h;split at h
  ·rcases ao.1 h with h|h
   ·exact .inr (h▸aq ..)
   ·exact(qp h).imp id fun h=>aC _ h
  ·split at h
   ·rcases ao.1 h with h|h
    ·exact .inl h
    ·exact .inr (aC _ h)
   ·rcases ao.1 h with h|h
    ·exact .inl h
    ·exact .inr h
theorem uG(p:Pr):∀{l:List Pr},dJ l→dJ (g9 p l)
 | [],_=>cH ..
 |q::l,a=>by
  have d:=a;have a:=bf.1 a;unfold g9;split
  ·rename_i h
   refine bf.2 ⟨fun r hm=>?_,uG p a.2⟩
   rcases qp hm with rfl|hm
   ·exact h
   ·exact a.1 r hm
  ·rename_i h
   split
   ·rename_i e
    exact bf.2 ⟨fun r hm=>e▸a.1 r hm,a.2⟩
   ·rename_i e
    have c:=Aa h e;refine bf.2 ⟨fun r hm=>?_,d⟩
    rcases ao.1 hm with rfl|hm
    ·exact c
    ·exact lD c (a.1 r hm)
theorem xK(p:Pr)(g:ByteArray→Bool):∀{l:List Pr},dJ l→(g9 p l).filter (fun q=>g q.1)=if g p.1 then g9 p (l.filter fun q=>g q.1)else l.filter fun q=>g q.1
 | [],_=>by
  unfold g9;rw[cJ,List.filter_nil]
 |q::l,f=>by
  have j:=f;have f:=bf.1 f;have m:=xK p g f.2;rw[iP];by_cases h:kl q.1 p.1
  ·rw[if_pos h,cJ,cJ,m]
   by_cases i:g q.1=true
   ·rw[if_pos i,if_pos i]
    split
    ·rw[iP,if_pos h]
    ·rfl
   ·rw[if_neg i,if_neg i]
  ·rw[if_neg h]
   by_cases e:q.1=p.1
   ·rw[if_pos e,cJ,cJ,e]
    by_cases a:g p.1=true
    ·rw[if_pos a,if_pos a,if_pos a,iP,if_neg h,if_pos e]
    ·rw[if_neg a,if_neg a,if_neg a]
   ·rw[if_neg e]
    have d:=Aa h e;rw[cJ];by_cases a:g p.1=true
    ·rw[if_pos a,if_pos a]
     have:∀r∈(q::l).filter (fun q=>g q.1),kl p.1 r.1:=fun r hm=>by
      rcases ao.1 (List.mem_filter.1 hm).1 with rfl|hm
      ·exact d
      ·exact lD d (f.1 r hm)
     cases hf:(q::l).filter (fun q=>g q.1)with
     |nil=>rfl
     |cons r rs=>
      have c:=this r (by rw[hf];exact aq ..);rw[iP,if_neg fun k=>dD _ (lD c k),if_neg fun e=>by rw[e]at c;exact dD _ c]
    ·rw[if_neg a,if_neg a]
theorem wJ{p:Pr}:∀{l:List Pr},dJ l→p∈l→g9 p l=l
 |q::l,a,hm=>by
  have a:=bf.1 a;unfold g9;rcases ao.1 hm with rfl|hm
  ·rw[if_neg (dD _),if_pos rfl]
  ·rw[if_pos (a.1 p hm),wJ a.2 hm]
def ck(x:Hs)(lev:Nat)(k:ByteArray):Nat:=((gj x k).toNat>>>(5*lev))%32
theorem DU(x:Hs)(lev:Nat)(k:ByteArray):ck x lev k<32:=ni _ (by omega)
def part(x:Hs)(lev c:Nat)(l:List Pr):List Pr:=l.filter fun p=>decide (ck x lev p.1=c)
def TrieAt(W:Nat→Prop)(x:Hs)(h:ac):Nat→Nat→List Pr→Prop
 |0,b,l=>BuckAt W h b l
 |m+1,b,l=>∃s,NodeAt W h b s∧∀c,c<32→
  ((part x (12-m) c l= []∧s.p c=none∧s.k c=none)∨(∃p,part x (12-m) c l= [p]∧s.p c=some p∧s.k c=none)∨
   (2≤(part x (12-m) c l).length∧s.p c=none∧∃kb,s.k c=some (some ⟨kb,0,none⟩)∧TrieAt W x h m kb (part x (12-m) c l)))
theorem TrieAt.upd0{W:Nat→Prop}{x:Hs}{h h':ac}(k:Upd No h h'):∀{m b:Nat} {l:List Pr},TrieAt W x h m b l→TrieAt W x h' m b l
 |0,_,_,t=>BuckAt.upd t k fun _ h=>h.elim
 |m+1,_,_,⟨s,nd,hc⟩=>⟨s,nd.upd k fun _ h=>h.elim,fun c a=>(hc c a).imp id fun o=>o.imp id fun⟨f,e,i,d,g⟩=>⟨f,e,i,d,TrieAt.upd0 k g⟩⟩
theorem NodeAt.less{W W':Nat→Prop}{h:ac}{b:Nat}{s:Slots}(n:NodeAt W h b s)(hm:∀b,W' b→W b∨h.size≤b):NodeAt W' h b s:=by
 obtain⟨d,m,sp,sk,ow,a,f,e,g,c,i⟩:=n.ex;exact⟨⟨d,m,sp,sk,ow,a,f,e.less hm,g.less hm,c,i⟩,fun hx=>(hm _ hx).elim n.nw fun h=>by have:=bG a;omega⟩
theorem BuckAt.less{W W':Nat→Prop}{h:ac}{b:Nat}{l:List Pr}(n:BuckAt W h b l)(hm:∀b,W' b→W b∨h.size≤b):BuckAt W' h b l:=by
 obtain⟨sp,sk,ow,a,d,e,c,f⟩:=n.ex;exact⟨⟨sp,sk,ow,a,d.less hm,e.less hm,c,f⟩,fun hx=>(hm _ hx).elim n.nw fun h=>by have:=bG a;omega⟩
theorem TrieAt.less{W W':Nat→Prop}{x:Hs}{h:ac}(hm:∀b,W' b→W b∨h.size≤b):∀{m b:Nat} {l:List Pr},TrieAt W x h m b l→TrieAt W' x h m b l
 |0,_,_,t=>BuckAt.less t hm
 |m+1,_,_,⟨s,nd,hc⟩=>⟨s,nd.less hm,fun c a=>(hc c a).imp id fun o=>o.imp id fun⟨f,e,i,d,g⟩=>⟨f,e,i,d,TrieAt.less hm g⟩⟩
theorem TrieAt.updM{W M:Nat→Prop}{x:Hs}{h h':ac}(k:Upd M h h')(hm:∀b,M b→W b∨h.size≤b):∀{m b:Nat} {l:List Pr},TrieAt W x h m b l→TrieAt W x h' m b l
 |0,_,_,t=>BuckAt.upd t k hm
 |m+1,_,_,⟨s,nd,hc⟩=>⟨s,nd.upd k hm,fun c a=>(hc c a).imp id fun o=>o.imp id fun⟨f,e,i,d,g⟩=>⟨f,e,i,d,TrieAt.updM k hm g⟩⟩
end Go.Proofs
namespace Go.Proofs
open Go.Lift
theorem IM(a b:Nat):(ag (IntKind.bits .u64) (a:Int)&&&ag (IntKind.bits .u64) (b:Int)).toNat=(a%18446744073709551616)&&&(b%18446744073709551616):=by
 simp[IntKind.bits,BitVec.toNat_and,BitVec.toNat_ofInt];rfl
theorem JG{a:Int}(f:0≤a∧a<18446744073709551616){lev:Nat}(i:lev<13){h:ac}{K:Int→ac→Prop}(d:K (((a.toNat>>>(5*lev))%32:Nat):Int) h):HC PG kZ [.int .u64 a,.int .i64 lev] [.c (.int .i64)] K h:=by
 refine Df a lev ?_;unfold yi;refine Join.plain (aU (fun h=>by omega) fun _=>?_)
 rw[decide_eq_false (by omega)];refine ak.2 ?_;have g:IntKind.wrap .i64 (5*(lev:Int))=((5*lev:Nat):Int):=by rw[pL (by omega)];omega
 rw[g];have em:min (((5*lev:Nat):Int)).toNat (IntKind.bits .u64)=5*lev:=by rw[aM];exact aX (by show 5*lev≤64;omega)
 rw[em];obtain⟨n,rfl⟩:=Int.eq_ofNat_of_zero_le f.1;rw[aM]at d;simp only[Bd];rw[is];have c:n>>>(5*lev)<18446744073709551616:=Nat.lt_of_le_of_lt (Nat.shiftRight_le _ _) (by omega);have e:=IM (n>>>(5*lev)) 31;rw[Nat.mod_eq_of_lt c,show((31:Nat):Int)=(31:Int)from rfl,show 31%18446744073709551616=2^5-1 from rfl,Nat.and_two_pow_sub_one_eq_mod]at e
 rw[e];have hm:n>>>(5*lev)%2^5<32:=ni _ (by omega);rw[Go.IntWalk.u64_in _ (by omega),pL (by omega)];exact⟨by omega,d⟩
theorem IH{x:Hs}{k:ByteArray}{lev:Nat}(c:lev<13){h:ac}{K:Int→ac→Prop}(a:K (ck x lev k:Int) h):HC PG kZ [.int .u64 (gj x k),.int .i64 lev] [.c (.int .i64)] K h:=JG (Bz x k) c a
abbrev HM(x:Hs)(k:ByteArray):Value:=.agg #[.int .u64 x.k0,.int .u64 x.k1,.int .u64 x.mask,.pointer none,.string k,.int .u64 (gj x k)]
theorem Bi{x:Hs}{lev c:Nat}{l:List Pr}(h:∀p∈l,ck x lev p.1=c):part x lev c l=l:=List.filter_eq_self.2 fun p a=>decide_eq_true (h p a)
theorem DF{x:Hs}{lev c:Nat}{l:List Pr}(h:∀p∈l,ck x lev p.1≠c):part x lev c l= []:=List.filter_eq_nil_iff.2 fun p a=>by simpa using h p a
theorem Bh{x:Hs}{lev c:Nat}{p:Pr}{l:List Pr}(a:dJ l):part x lev c (g9 p l)=if ck x lev p.1=c then g9 p (part x lev c l)else part x lev c l:=by
 have:=xK p (fun k=>decide (ck x lev k=c)) a
 unfold part;rw[this];by_cases h:ck x lev p.1=c
 ·rw[if_pos h,if_pos (decide_eq_true h)]
 ·rw[if_neg h,if_neg (by simpa using h)]
theorem Dv{p q:Pr}(h:p.1≠q.1):(g9 q [p]).length=2:=by
 rw[iP];by_cases a:kl p.1 q.1
 ·rw[if_pos a];rfl
 ·rw[if_neg a,if_neg h];rfl
theorem DH{p q r:Pr}(h:r∈g9 q [p]):r=p∨r=q:=(qp h).symm.imp (fun h=>ay.1 h) id
theorem iI{β:Type}{g:Nat→Option β}{i c:Nat}{x:Option β}(h:c≠i):upd g i x c=g c:=by unfold upd;rw[if_neg h]
theorem HG{W:Nat→Prop}{x:Hs}:∀(m:Nat) (p q:Pr),m≤13→p.1≠q.1→∀{h:ac},(∀y,W y→y<h.size)→∀{K:Option Addr→ac→Prop},(∀h' b',TrieAt W x h' m b' (g9 q [p])→Upd No h h'→K (some ⟨b',0,none⟩) h')→
  HC PG hU [HM x q.1,.agg #[.string p.1,.string p.2],.agg #[.string q.1,.string q.2],.int .i64 ((13-m:Nat):Int)] [.c .ptr] K h:=by
 intro m;induction m with
 |zero=>
  intro p q _ G h T K Q;have D:∀{h'},Upd No h h'→∀y,W y→y<h'.size:=fun k y R=>aK (T y R) k.size
  refine nS (x.k0,x.k1,x.mask,none,q.1,gj x q.1) p q ((13-0:Nat):Int) ?_;unfold kw ad af aB zC rF eM wE yo En ri AO;have k1:=Upd.hnew No h [.int .u64 x.k0,.int .u64 x.k1,.int .u64 x.mask,.pointer none,.string q.1,.int .u64 (gj x q.1)] bM;have b1:=bh h [.int .u64 x.k0,.int .u64 x.k1,.int .u64 x.mask,.pointer none,.string q.1,.int .u64 (gj x q.1)] bM
  refine aR ?_;simp only[bS h];generalize hnew h [.int .u64 x.k0,.int .u64 x.k1,.int .u64 x.mask,.pointer none,.string q.1,.int .u64 (gj x q.1)] bM=h1 at k1 b1;have C:=Upd.hnew No h1 [.string p.1,.string p.2] ah;have b2:=bh h1 [.string p.1,.string p.2] ah;refine aR ?_;simp only[bS h1];generalize hnew h1 [.string p.1,.string p.2] ah=h2 at C b2
  have A:=Upd.hnew No h2 [.string q.1,.string q.2] ah;have b3:=bh h2 [.string q.1,.string q.2] ah;refine aR ?_;simp only[bS h2];generalize hnew h2 [.string q.1,.string q.2] ah=h3 at A b3;have f:∀{h':ac},Upd No h3 h'→∀i,bc h' (adr ⟨h.size,0,none⟩ i)=(#[.int .u64 x.k0,.int .u64 x.k1,.int .u64 x.mask,.pointer none,.string q.1,.int .u64 (gj x q.1)]:Array Value)[i]?:=fun k i=>by
   rw[bp,aE (k.get0 (A.get0 (C.get0 b1))),aw]
  have v:∀{h':ac},Upd No h3 h'→∀i,bc h' (adr ⟨h1.size,0,none⟩ i)=(#[.string p.1,.string p.2]:Array Value)[i]?:=fun k i=>by rw[bp,aE (k.get0 (A.get0 b2)),aw]
  have o:∀{h':ac},Upd No h3 h'→∀i,bc h' (adr ⟨h2.size,0,none⟩ i)=(#[.string q.1,.string q.2]:Array Value)[i]?:=fun k i=>by rw[bp,aE (k.get0 b3),aw]
  have r:=Upd.refl No h3;refine aA.2 ⟨none,f r 3,p.1,v r 0,p.2,v r 1,none,f r 3,q.1,o r 0,q.2,o r 1,?_⟩;refine EL (D ((k1.tr C).tr A)) fun h4 b4 V d=>⟨⟨o d 0,o d 1⟩,f d 3,⟨v d 0,v d 1⟩,f d 3,?_⟩
  refine Au V (D (((k1.tr C).tr A).tr d)) dV (by simp) p fun h5 b5 O B=>?_
  have s:=d.tr B;refine⟨⟨o s 0,o s 1⟩,f s 3,?_⟩;have N:Ac [] p= [p]:=wK p dV;rw[N]at O;refine Au O (D (((k1.tr C).tr A).tr s)) (cH ..) (by simp) q fun Y L P z=>?_
  rw[wK q (cH ..)]at P;exact Q Y L P ((((k1.tr C).tr A).tr s).tr z)
 |succ m ih=>
  intro p q hm G h T K Q;have D:∀{h'},Upd No h h'→∀y,W y→y<h'.size:=fun k y R=>aK (T y R) k.size
  have Z:13-(m+1)<13:=by omega
  have n:13-(m+1)=12-m:=by omega
  refine nS (x.k0,x.k1,x.mask,none,q.1,gj x q.1) p q ((13-(m+1):Nat):Int) ?_;unfold kw ad af aB zC rF eM wE yo En ri AO;have k1:=Upd.hnew No h [.int .u64 x.k0,.int .u64 x.k1,.int .u64 x.mask,.pointer none,.string q.1,.int .u64 (gj x q.1)] bM;have b1:=bh h [.int .u64 x.k0,.int .u64 x.k1,.int .u64 x.mask,.pointer none,.string q.1,.int .u64 (gj x q.1)] bM
  refine aR ?_;simp only[bS h];generalize hnew h [.int .u64 x.k0,.int .u64 x.k1,.int .u64 x.mask,.pointer none,.string q.1,.int .u64 (gj x q.1)] bM=h1 at k1 b1;have C:=Upd.hnew No h1 [.string p.1,.string p.2] ah;have b2:=bh h1 [.string p.1,.string p.2] ah;refine aR ?_;simp only[bS h1];generalize hnew h1 [.string p.1,.string p.2] ah=h2 at C b2
  have A:=Upd.hnew No h2 [.string q.1,.string q.2] ah;have b3:=bh h2 [.string q.1,.string q.2] ah;refine aR ?_;simp only[bS h2];generalize hnew h2 [.string q.1,.string q.2] ah=h3 at A b3;have f:∀{h':ac},Upd No h3 h'→∀i,bc h' (adr ⟨h.size,0,none⟩ i)=(#[.int .u64 x.k0,.int .u64 x.k1,.int .u64 x.mask,.pointer none,.string q.1,.int .u64 (gj x q.1)]:Array Value)[i]?:=fun k i=>by
   rw[bp,aE (k.get0 (A.get0 (C.get0 b1))),aw]
  have v:∀{h':ac},Upd No h3 h'→∀i,bc h' (adr ⟨h1.size,0,none⟩ i)=(#[.string p.1,.string p.2]:Array Value)[i]?:=fun k i=>by rw[bp,aE (k.get0 (A.get0 b2)),aw]
  have o:∀{h':ac},Upd No h3 h'→∀i,bc h' (adr ⟨h2.size,0,none⟩ i)=(#[.string q.1,.string q.2]:Array Value)[i]?:=fun k i=>by rw[bp,aE (k.get0 b3),aw]
  have r:=Upd.refl No h3;have ne:(((13-(m+1):Nat):Int)==(13:Int))=false:=by rw[beq_eq_false_iff_ne];omega
  rw[ne];refine ak.2 ⟨_,f r 0,_,f r 1,_,f r 2,_,v r 0,_,f r 5,?_⟩;refine Ag fun h4 d=>⟨f d 5,IH Z ⟨f d 5,IH Z ?_⟩⟩
  have hi:=DU x (13-(m+1)) p.1;have hj:=DU x (13-(m+1)) q.1;have j:=((k1.tr C).tr A);have hcl:=Dv G;refine CondP.intro (fun e=>?_) fun e=>?_
  ·have e:ck x (13-(m+1)) p.1=ck x (13-(m+1)) q.1:=by have:=eq_of_beq e;omega
   refine⟨_,f d 3,_,f d 0,_,f d 1,_,f d 2,_,f d 3,_,f d 4,_,f d 5,_,v d 0,_,v d 1,_,o d 0,_,o d 1,?_⟩;refine my (D (j.tr d)) fun h5 b5 I B=>?_
   have a:=d.tr B;refine⟨⟨o a 0,o a 1⟩,⟨v a 0,v a 1⟩,⟨f a 0,f a 1,f a 2,f a 3,f a 4,f a 5⟩,f a 3,?_⟩;have ew:IntKind.wrap .i64 (((13-(m+1):Nat):Int)+1)=((13-m:Nat):Int):=by rw[pL (by omega)];omega
   rw[ew];refine ih p q (by omega) G (D (j.tr a)) fun Y L t6 z=>?_
   have g:=a.tr z;refine⟨f g 3,?_⟩;refine uD (I.upd z fun _ h=>h.elim) (D (j.tr g)) hi (fun y h=>by cases h) ⟨L,0,none⟩ fun S X J E=>?_
   refine Q S X ⟨_,J,fun c hc=>?_⟩ ((j.tr g).tr E)
   rw[n]at e;by_cases t:c=ck x (13-(m+1)) p.1
   ·refine .inr (.inr ?_)
    have ea:part x (12-m) c (g9 q [p])=g9 q [p]:=Bi fun r H=>by
     rcases DH H with rfl|rfl
     ·rw[t,n]
     ·rw[t,n,e]
    rw[ea];exact⟨by omega,by simp[upd],L,by rw[t];exact ig,TrieAt.upd0 E t6⟩
   ·refine .inl ⟨DF fun r H=>?_,by simp[upd],iI t⟩
    rw[n]at t;rcases DH H with rfl|rfl
    ·exact fun e=>t e.symm
    ·rw[←e];exact fun e=>t e.symm
  ·have e:ck x (13-(m+1)) p.1≠ck x (13-(m+1)) q.1:=fun h=>by rw[h]at e;simp at e
   refine⟨_,f d 3,_,v d 0,_,v d 1,_,f d 3,_,o d 0,_,o d 1,?_⟩;refine my (D (j.tr d)) fun h5 b5 I B=>?_
   have a:=d.tr B;refine⟨⟨o a 0,o a 1⟩,f a 3,⟨v a 0,v a 1⟩,f a 3,?_⟩;refine pr I (D (j.tr a)) hi (fun y h=>by cases h) p fun Y L U z=>?_
   have g:=a.tr z;refine⟨⟨o g 0,o g 1⟩,f g 3,?_⟩;refine pr U (D (j.tr g)) hj (fun y h=>by simp[upd]) q fun S X J E=>?_
   refine Q S X ⟨_,J,fun c hc=>?_⟩ ((j.tr g).tr E)
   have u:=Bh (x:=x) (lev:=12-m) (c:=c) (p:=q) (l:= [p]) (cH ..);rw[n]at e;by_cases F:c=ck x (12-m) p.1
   ·have w:ck x (12-m) q.1≠c:=fun h=>e (by omega)
    have N:part x (12-m) c [p]= [p]:=Bi fun r H=>by rw[ay.1 H,F]
    rw[if_neg w,N]at u;exact .inr (.inl ⟨p,u,by simp[upd,n,F,e],by simp[upd]⟩)
   ·have N:part x (12-m) c [p]= []:=DF fun r H=>by rw[ay.1 H];exact fun h=>F h.symm
    rw[N]at u;by_cases w:c=ck x (12-m) q.1
    ·rw[if_pos w.symm]at u
     exact .inr (.inl ⟨q,u,by simp[upd,n,w],by simp[upd]⟩)
    ·rw[if_neg fun h=>w h.symm]at u
     exact .inl ⟨u,by simp[upd,n,w,F],by simp[upd]⟩
end Go.Proofs
