/- A part of the proof that the named laws of this program answer true, whatever the input. -/
import Derived.Test.YtncppacbfagpgaaGreatPart0
namespace Go.Proofs
open BitVec renaming ofInt→aw,ofInt_natCast→mI,getLsbD_ofNat→mJ
open Int renaming fdiv→dG,toNat_natCast→aY
open IntKind renaming wrap→ac,bits→ak
open List renaming getElem_of_mem→aW,length_take→aI,length_drop→aO,take_append_drop→aK,mem_cons→aB,pairwise_append→bQ,append_nil→aL,getElem_mem→bF,mem_of_getElem→nG,pairwise_iff_getElem→bS,take_succ_cons→eI,length_cons→ao,drop_succ_cons→fx,append_assoc→aA,mem_cons_self→ax,length_append→ad,replicate→sR,replicate_succ→nF,flatMap_cons→aX,flatten_append→nH,flatten_cons→jP,flatten_nil→qo,getElem?_eq_getElem→ai,length→fD,take_of_length_le→aZ,range→gu,range_add→sS,mem_range→gv,filterMap_append→pZ,take_left'→cL,drop_left'→co,drop_drop→dF
open Nat renaming le_refl→au,zero_le→bf,le_trans→bJ,testBit_and→lz,testBit_two_pow_sub_one→l6,shiftRight_eq_div_pow→nh,lt_of_le_of_lt→jm,min_eq_left→bG,shiftRight_le→pN,mod_eq_of_lt→kf,testBit_lt_two_pow→pM,lt_of_lt_of_le→aJ,zero_add→aQ,le_of_eq→fh,lt_irrefl→lB
open Option renaming some→bm
open UInt8 renaming toNat_inj→ox,ofNat→tZ
def ul(P P':List UInt8→ByteArray→Prop)(k:List UInt8)(v:ByteArray):Prop:=∀k' v',P' k' v'↔(k'=k∧v'=v)∨(k'≠k∧P k' v')
theorem Hh{w:Option ByteArray}{F:Fo}(h:ie F)(v:ByteArray):ul (vf w F) (vf (some v) F) [] v:=by
 intro k' v';unfold vf;constructor
 ·rintro(⟨e,f⟩|hi)
  ·exact.inl ⟨e,(bm.inj f).symm⟩
  ·exact.inr ⟨wN h hi,.inr hi⟩
 ·rintro(⟨e,f⟩|⟨e,⟨f,_⟩|hi⟩)
  ·exact.inl ⟨e,by rw[f]⟩
  ·exact absurd f e
  ·exact.inr hi
theorem BP{w:Option ByteArray}{F F':Fo}{k:List UInt8}{v:ByteArray}(hk:k≠[])(h:ul(tC F)(tC F') k v):ul (vf w F) (vf w F') k v:=by
 intro k' v';unfold vf;rw[h k' v'];constructor
 ·rintro(⟨e,f⟩|hi|hi)
  ·exact.inr ⟨fun e'=>hk (e'.symm.trans e),.inl ⟨e,f⟩⟩
  ·exact.inl hi
  ·exact.inr ⟨hi.1,.inr hi.2⟩
 ·rintro(hi|⟨e,hi|hi⟩)
  ·exact.inr (.inl hi)
  ·exact.inl hi
  ·exact.inr (.inr ⟨e,hi⟩)
theorem O4{F:Fo}{k:List UInt8}{v:ByteArray}{i:Nat}(h:ie F)(hk:k≠[])(hi:∀j(hj:j<F.toL.length),j<i→hd F.toL[j].1<hd k)(hi':∀j(hj:j<F.toL.length),i≤j→hd k<hd F.toL[j].1):ie (.ofL (F.toL.take i++(k,some v,.nil)::F.toL.drop i))∧ul (tC F) (tC (.ofL (F.toL.take i++(k,some v,.nil)::F.toL.drop i))) k v:=by
 have hc:=eE.1 h;have t1:∀n∈F.toL.take i,hd n.1<hd k:=fun n hn=>by
  obtain⟨j,hj,e⟩:=aW hn;rw[aI]at hj;rw[←e,List.getElem_take];exact hi j (by omega) (by omega)
 have t2:∀n∈F.toL.drop i,hd k<hd n.1:=fun n hn=>by
  obtain⟨j,hj,e⟩:=aW hn;rw[aO]at hj;rw[←e,List.getElem_drop];exact hi' _ (by omega) (by omega)
 have mem:∀n,n∈F.toL.take i++(k,some v,.nil)::F.toL.drop i↔n=(k,some v,Fo.nil)∨n∈F.toL:=fun n=>by
  conv=>rhs;rw[←aK i F.toL]
  simp only[List.mem_append,aB];exact⟨fun h=>h.elim (fun h=>.inr (.inl h))fun h=>h.elim .inl fun h=>.inr (.inr h),fun h=>h.elim (fun h=>.inr (.inl h))fun h=>h.elim .inl fun h=>.inr (.inr h)⟩
 refine⟨eE.2 ⟨?_,?_⟩,fun k' v'=>?_⟩
 ·rw[Fo.to_of]
  have hp:=hc.1;rw[←aK i F.toL,bQ]at hp;refine bQ.2 ⟨hp.1,List.pairwise_cons.2 ⟨t2,hp.2.1⟩,fun a ha b hb=>?_⟩
  rcases aB.1 hb with rfl|hb
  ·exact t1 a ha
  ·exact hp.2.2 a ha b hb
 ·rw[Fo.to_of]
  intro n hn;rcases(mem n).1 hn with rfl|hn
  ·exact⟨hk,.inl rfl,trivial⟩
  ·exact hc.2 n hn
 ·rw[iJ,iJ,Fo.to_of]
  constructor
  ·rintro⟨n,hn,r,e,hr⟩
   rcases(mem n).1 hn with rfl|hn
   ·rcases hr with⟨rfl,f⟩|f
    ·exact.inl ⟨by rw[e];exact aL _,(bm.inj f).symm⟩
    ·exact f.elim
   ·right
    refine⟨fun e'=>?_,n,hn,r,e,hr⟩
    have e2:hd k=hd n.1:=by rw[←e',e,pk (hc.2 n hn).1]
    obtain⟨j,hj,ej⟩:=aW hn;rcases Nat.lt_or_ge j i with h1|h1
    ·have:=hi j hj h1;rw[ej]at this;omega
    ·have:=hi' j hj h1;rw[ej]at this;omega
  ·rintro(⟨rfl,rfl⟩|⟨_,n,hn,h⟩)
   ·exact⟨(k',some v',.nil),(mem _).2 (.inl rfl),[],(aL _).symm,.inl ⟨rfl,rfl⟩⟩
   ·exact⟨n,(mem _).2 (.inr hn),h⟩
theorem mp{α:Type}{l:List α}{i:Nat}(hi:i<l.length){a x:α}(nd:∀j(hj:j<l.length),j≠i→l[j]≠l[i]):x∈l.set i a↔x=a∨(x∈l∧x≠l[i]):=by
 constructor
 ·intro h
  obtain⟨j,hj,e⟩:=aW h;rw[List.length_set]at hj;rw[List.getElem_set]at e;split at e
  ·exact.inl e.symm
  ·rename_i hne
   exact.inr ⟨by rw[←e];exact bF hj,by rw[←e];exact nd j hj fun e=>hne e.symm⟩
 ·rintro(rfl|⟨h,hne⟩)
  ·exact nG (i:=i) (h:=by simpa using hi) (by simp)
  ·obtain⟨j,hj,e⟩:=aW h
   have:i≠j:=by rintro rfl;exact hne e.symm
   exact nG (i:=j) (h:=by simpa using hj) (by rw[List.getElem_set_ne this];exact e)
theorem OC{F:Fo}{i:Nat}{m:Bn}(h:ie F)(hi:i<F.toL.length)(hm:Jw m)(e:hd m.1=hd F.toL[i].1):ie (.ofL (F.toL.set i m)):=by
 have hc:=eE.1 h;rw[eE,Fo.to_of];refine⟨?_,fun n hn=>?_⟩
 ·rw[bS]at hc⊢
  intro a b ha hb hab;rw[List.length_set]at ha hb;rw[List.getElem_set,List.getElem_set];split
  ·rename_i ea;subst ea
   rw[if_neg (by omega),e];exact hc.1 _ _ ha hb hab
  ·split
   ·rename_i eb;subst eb
    rw[e];exact hc.1 _ _ ha hb hab
   ·exact hc.1 _ _ ha hb hab
 ·rcases List.mem_or_eq_of_mem_set hn with hn|rfl
  ·exact hc.2 n hn
  ·exact hm
theorem vo{F:Fo}(h:ie F){i:Nat}(hi:i<F.toL.length)(j:Nat)(hj:j<F.toL.length)(hne:j≠i):F.toL[j]≠F.toL[i]:=by
 have hc:=(eE.1 h).1;rw[bS]at hc;intro e;rcases Nat.lt_or_gt_of_ne hne with hl|hl
 ·have:=hc j i hj hi hl;rw[e]at this;omega
 ·have:=hc i j hi hj hl;rw[e]at this;omega
theorem Km{F:Fo}{i:Nat}{m:Bn}{k:List UInt8}{v:ByteArray}(h:ie F)(hi:i<F.toL.length)(ek:hd F.toL[i].1=hd k)(hp:ul(vg F.toL[i])(vg m) k v):ul (tC F) (tC (.ofL (F.toL.set i m))) k v:=by
 intro k' v';have hc:=eE.1 h;rw[iJ,iJ,Fo.to_of];constructor
 ·rintro⟨n,hn,hr⟩
  rcases(mp hi (vo h hi)).1 hn with rfl|⟨hn,hne⟩
  ·rcases(hp k' v').1 hr with h1|⟨h1,h2⟩
   ·exact.inl h1
   ·exact.inr ⟨h1,_,bF hi,h2⟩
  ·refine.inr ⟨fun e=>hne ?_,n,hn,hr⟩
   obtain⟨r,e',_⟩:=hr;refine Au h hn (bF hi) ?_;rw[ek,←e,e',pk (hc.2 n hn).1]
 ·rintro(h1|⟨h1,n,hn,hr⟩)
  ·exact⟨m,(mp hi (vo h hi)).2 (.inl rfl),(hp k' v').2 (.inl h1)⟩
  ·by_cases e:n=F.toL[i]
   ·exact⟨m,(mp hi (vo h hi)).2 (.inl rfl),(hp k' v').2 (.inr ⟨h1,by rw[←e];exact hr⟩)⟩
   ·exact⟨n,(mp hi (vo h hi)).2 (.inr ⟨hn,e⟩),hr⟩
theorem O3{lab r:List UInt8}{w w':Option ByteArray}{F F':Fo}{v:ByteArray}(h:ul(vf w F)(vf w' F') r v):ul (vg (lab,w,F)) (vg (lab,w',F')) (lab++r) v:=by
 intro k' v';constructor
 ·rintro⟨s,e,hs⟩
  rcases(h s v').1 hs with⟨rfl,rfl⟩|⟨h1,h2⟩
  ·exact.inl ⟨e,rfl⟩
  ·exact.inr ⟨fun e'=>h1 (List.append_cancel_left (e.symm.trans e')),s,e,h2⟩
 ·rintro(⟨rfl,rfl⟩|⟨h1,s,e,hs⟩)
  ·exact⟨r,rfl,(h r v').2 (.inl ⟨rfl,rfl⟩)⟩
  ·exact⟨s,e,(h s v').2 (.inr ⟨fun e'=>h1 (by rw[e,e']),hs⟩)⟩
def cm:List UInt8→List UInt8→Nat
 |a::x,b::y=>if a=b then cm x y+1 else 0
 |_,_=>0
theorem Q8:∀(x y:List UInt8),cm x y≤x.length∧cm x y≤y.length
 | [],_=>by simp[cm]
 |_::_,[]=>by simp[cm]
 |a::x,b::y=>by unfold cm;have:=Q8 x y;split<;>simp<;>omega
theorem OA:∀(x y:List UInt8),x.take (cm x y)=y.take (cm x y)
 | [],_=>by simp[cm]
 |_::_,[]=>by simp[cm]
 |a::x,b::y=>by
  unfold cm;split
  ·rename_i e;rw[eI,eI,OA x y,e]
  ·simp
theorem Jb:∀(x y:List UInt8),cm x y<x.length→cm x y<y.length→hd (x.drop (cm x y))≠hd (y.drop (cm x y))
 | [],_=>by simp[cm]
 |_::_,[]=>by simp[cm]
 |a::x,b::y=>by
  unfold cm;split
  ·rename_i e
   intro h1 h2;rw[ao]at h1 h2;rw[fx,fx];exact Jb x y (by omega) (by omega)
  ·rename_i e
   intro _ _ h;exact e (ox.1 h)
theorem Q6{x y:List UInt8}(hx:x≠[])(hy:y≠[])(h:hd x=hd y):0<cm x y:=by
 match x,y,hx,hy with
 |a::x,b::y,_,_=>
  unfold cm;rw[if_pos (show a=b from ox.1 h)]
  omega
theorem HF{lab:List UInt8}{w:Option ByteArray}{F:Fo}(c:Nat):∀k v,vg (lab.take c,none,.cons (lab.drop c) w F .nil) k v↔vg (lab,w,F) k v:=by
 intro k v;constructor
 ·rintro⟨r,e,⟨_,h⟩|(⟨s,rfl,h⟩|h)⟩
  ·cases h
  ·exact⟨s,by rw[e];simp only;rw[←aA,aK],h⟩
  ·exact h.elim
 ·rintro⟨s,e,h⟩
  exact⟨lab.drop c++s,by rw[e];simp only;rw[←aA,aK],.inr (.inl ⟨s,rfl,h⟩)⟩
theorem Rf{lab r:List UInt8}{w w':Option ByteArray}{F F':Fo}{v:ByteArray}(hl:lab≠[])(hb:w.isSome∨2≤F.toL.length)(hF:ie F)(hne:r≠[]→hd r≠hd lab)(h:ul(vf none(.cons lab w F .nil))(vf w' F') r v):Br (vf w' F'):=by
 by_cases e:r= []
 ·subst e
  exact.inl ⟨v,(h [] v).2 (.inl ⟨rfl,rfl⟩)⟩
 ·have hc:ie (.cons lab w F .nil):=⟨hl,hb,hF,fun n hn=>by simp[Fo.toL]at hn,trivial⟩
  obtain⟨s,u,hs⟩:=rX hc _ (ax ..);simp only at hs;have e2:hd (lab++s)=hd lab:=pk hl;refine.inr ⟨r,lab++s,v,u,(h r v).2 (.inl ⟨rfl,rfl⟩),(h _ u).2 (.inr ⟨fun e'=>hne e (by rw[←e',e2]),.inr (.inl ⟨s,rfl,hs⟩)⟩),e,fun e'=>hl (List.append_eq_nil_iff.1 e').1,by rw[e2];exact hne e⟩
theorem SE{P P':List UInt8→ByteArray→Prop}{k:List UInt8}{v:ByteArray}(hb:Br P)(h:ul P P' k v):Br P':=by
 have keep:∀j u,P j u→∃u',P' j u':=fun j u hj=>by
  by_cases e:j=k
  ·exact⟨v,(h j v).2 (.inl ⟨e,rfl⟩)⟩
  ·exact⟨u,(h j u).2 (.inr ⟨e,hj⟩)⟩
 rcases hb with⟨u,hu⟩|⟨j,k',u,u',hj,hk,r⟩
 ·obtain⟨u',h'⟩:=keep [] u hu
  exact.inl ⟨u',h'⟩
 ·obtain⟨a,ha⟩:=keep j u hj
  obtain⟨b,hb⟩:=keep k' u' hk;exact.inr ⟨j,k',a,b,ha,hb,r⟩
end Go.Proofs
namespace Go.Proofs
open Go.Lift
theorem OwnS.zero{α:Type}{f:α→List Value}{sz:Nat}{t:TypeId}{M:Nat→Prop}{h:af}{s:SliceV}{xs:List α}(hs:OwnS f sz t M h s xs):OwnS f sz t M h ⟨aP s.a 0 s.cap sz,0-0,s.cap-0⟩ []:=by
 have hf:∀x,(f x).length=sz∧0<sz:=hs.ne;have hlen:=hs.len;have hcap:=hs.cap;refine⟨rfl,hf,by simp only;omega,?_⟩
 rcases hs.blk with h0|⟨b,rest,ha,hb,hc,hr⟩
 ·exact.inl (by simp only;omega)
 ·refine.inr ⟨b,xs.flatMap f++rest,by rw[ha,sub_zero],hb,hc,?_⟩
  rw[ad,kM hf,hr,←Nat.add_mul];simp only;congr 1;omega
def NR:Pr:=(⟨#[]⟩,⟨#[]⟩)
theorem NP(n:Nat):dz n [.string (⟨#[]⟩:ByteArray),.string (⟨#[]⟩:ByteArray)]=(sR n NR).flatMap ee:=by
 unfold dz;induction n with
 |zero=>rfl
 |succ n ih=>rw[nF,nF,aX,←ih];rfl
theorem Sq{n:Nat}(hn:n*32≤140737488355328){h:af}{K:SliceV→af→Prop}(hk:∀s' h',OwnS ee 2 aq(fun b=>h.size≤b) h' s'[]→Upd No h h'→K s' h'):
  HC PG fK [.slice none 0 0,.int .i64 n] [.c .slice] K h:=by
 refine nW ⟨none,0,0⟩ n ?_;unfold iZ;have e:ac .i64 ((n:Int)-ac .i64 (((0:Nat):Int)-((0:Nat):Int)))=(n:Int):=by rw[cR (x:=((0:Nat):Int)-((0:Nat):Int)) (by omega),cR (by omega)];omega
 refine Join.plain (ay (fun h=>by omega)fun _=>?_)
 simp only[Bd];rw[e];refine ay (fun hp=>?_)fun hz=>hk _ _ (OwnS.nil fS) (Upd.refl _ _)
 refine⟨by omega,⟨by omega,by omega,by omega,by omega⟩,?_⟩
 refine AppP.own (f:=ee) (M:=fun b=>h.size≤b) (xs:= []) (ys:=sR n NR) (OwnS.nil fS) (by simp) (NP _) (by rw[NP];exact vn _) rfl (by omega) (by simpa using hn) (au _)fun s' h' ho hu=>?_
 exact⟨by omega,hk _ _ (OwnS.zero ho) (hu.mono fun b hb=>.inr hb)⟩
abbrev Uc(s:SliceV):List Value:= [.slice s.a s.len s.cap]
def ParS(h:af):List SliceV→List (List Pr)→Prop
 | [],[]=>True
 |v::vs,l::ls=>Sl ee 2 No h v l∧ParS h vs ls
 |_,_=>False
theorem ParS.upd{h h':af}(k:Upd No h h'):∀{vs:List SliceV} {ls:List (List Pr)},ParS h vs ls→ParS h' vs ls
 | [],[],_=>trivial
 |_::_,_::_,q=>⟨q.1.upd k fun _ h=>h.elim,ParS.upd k q.2⟩
 | [],_::_,q=>q.elim
 |_::_,[],q=>q.elim
theorem ParS.len{h:af}:∀{vs:List SliceV} {ls:List (List Pr)},ParS h vs ls→vs.length=ls.length
 | [],[],_=>rfl
 |_::_,_::_,q=>by rw[ao,ao,ParS.len q.2]
 | [],_::_,q=>q.elim
 |_::_,[],q=>q.elim
theorem ParS.at{h:af}:∀{vs:List SliceV} {ls:List (List Pr)},ParS h vs ls→∀{i:Nat} (h1:i<vs.length) (h2:i<ls.length),Sl ee 2 No h vs[i] ls[i]
 |_::_,_::_,q,0,_,_=>q.1
 |_::_,_::_,q,i+1,h1,h2=>ParS.at q.2 (by simpa using h1) (by simpa using h2)
theorem HN(ls:List(List Pr)){i:Nat}(hi:i<ls.length):(ls.take (i+1)).flatten=(ls.take i).flatten++ls[i]:=by
 rw[List.take_succ_eq_append_getElem hi,nH,jP,qo,aL]
theorem Ov(ls:List(List Pr))(i:Nat):(ls.take i).flatten.length≤ls.flatten.length:=by
 have:ls.flatten=(ls.take i).flatten++(ls.drop i).flatten:=by rw[←nH,aK]
 rw[this,ad];omega
theorem HS{h:af}{s:SliceV}{vs:List SliceV}{ls:List(List Pr)}(hs:Sl Uc 1 No h s vs)(hp:ParS h vs ls)(hn:ls.flatten.length*32≤140737488355328)(hv:vs.length≤1000)
  {K:SliceV→af→Prop}(hk:∀s' h',OwnS ee 2 aq(fun b=>h.size≤b) h' s' ls.flatten→Upd No h h'→K s' h'):HC PG dK [.slice s.a s.len s.cap] [.c .slice] K h:=by
 refine mZ s ?_;unfold ip aj bP;have hlen:=hs.len;have hpl:=hp.len;refine LoopP.ghost (fun(i:Nat) (t:Int×Int) h'=>t.2=(i:Int)∧i≤vs.length∧t.1=((ls.take i).flatten.length:Int)∧h'=h) (fun i=>vs.length-i) 0 ⟨rfl,bf _,by simp,rfl⟩ ?_
 rintro I i ⟨tz,ti⟩ h' ⟨e1,hi,e2,rfl⟩ hI;simp only at e1 e2;subst e1 e2;refine ay (fun hlt=>?_)fun hge=>?_
 ·have hlt:i<vs.length:=by have:(i:Int)<(s.len:Int):=hlt;omega
  obtain⟨a,ha,_,hv'⟩:=hs.at (ai hlt);have hvl:=(hp.at hlt (hpl▸hlt)).len;have hft:=congrArg fD (HN ls (hpl▸hlt));rw[ad]at hft;have hfl:=Ov ls (i+1);refine Join.plain ⟨by simp only;omega,a,ha,_,hv' 0 _ rfl,?_⟩;simp only;have ew:ac .i64 (((ls.take i).flatten.length:Int)+((vs[i]).len:Int))=((ls.take (i+1)).flatten.length:Int):=by rw[cR (by omega)];omega
  rw[ew];refine ay (fun h=>by omega)fun _=>?_
  rw[oP hlt (by omega)];exact hI (i+1) _ _ ⟨rfl,hlt,rfl,rfl⟩ (by omega)
 ·have hil:i=vs.length:=by have:¬(i:Int)<(s.len:Int):=hge;omega
  rw[aZ (by omega)];refine Sq hn fun s0 h0 ho0 hu0=>?_
  refine LoopP.ghost (fun(i:Nat) (t:SliceV×Int) h1=>t.2=(i:Int)∧i≤vs.length∧OwnS ee 2 aq (fun b=>h'.size≤b) h1 t.1 (ls.take i).flatten∧Upd No h' h1) (fun i=>vs.length-i) 0 ⟨rfl,bf _,by simpa using ho0,hu0⟩ ?_
  rintro I2 j ⟨sj,tj⟩ h1 ⟨e1,hj,ho,hu⟩ hI2;simp only at e1 ho;subst e1;refine ay (fun hlt=>?_)fun hge2=>?_
  ·have hlt:j<vs.length:=by have:(j:Int)<(s.len:Int):=hlt;omega
   obtain⟨a,ha,_,hv'⟩:=(hs.upd hu fun _ h=>h.elim).at (ai hlt)
   have hvj:=((hp.upd hu).at hlt (hpl▸hlt));have hft:=HN ls (hpl▸hlt);have hft2:=congrArg fD hft;rw[ad]at hft2;have hfl:=Ov ls (j+1);refine Join.plain ⟨by simp only;omega,a,ha,_,hv' 0 _ rfl,_,hvj.srow,?_⟩;refine AppP.own (ys:=ls[j]) ho hvj.len rfl (vn _) rfl (by omega) (by omega) hu.size fun s2 h2 ho2 hu2=>?_
   simp only;rw[oP hlt (by omega)];exact hI2 (j+1) _ _ ⟨rfl,hlt,hft▸ho2,hu.trans hu2 fun b hb=>.inr hb⟩ (by omega)
  ·have hjl:j=vs.length:=by have:¬(j:Int)<(s.len:Int):=hge2;omega
   rw[aZ (by omega)]at ho;exact hk _ _ ho hu
def Gh(l:List Pr)(p:Pr):List Pr:=l.take (oy l p.1)++p::l.drop (if cp l p.1 then oy l p.1+1 else oy l p.1)
def Ps(l:List Pr)(k:ByteArray):List Pr:=if cp l k then l.take (oy l k)++l.drop (oy l k+1)else l
theorem IB{l:List Pr}(hr:bU l){k:ByteArray}(ht:cp l k=true):∃h:oy l k<l.length,l[oy l k].1=k:=by
 unfold cp at ht;obtain⟨p,hp,e⟩:=List.any_eq_true.1 ht;have e:=of_decide_eq_true e;obtain⟨q,hq,rfl⟩:=List.mem_iff_getElem.1 hp;have:oy l k=q:=QA (by omega) (fun j hj hjq=>by rw[←e];exact bS.1 hr j q hj hq hjq)fun h=>by rw[←e];exact bI _
 subst this;exact⟨hq,e⟩
theorem Il{h:af}{s:SliceV}{l:List Pr}(hs:Sl ee 2 No h s l){i j m:Nat}(h1:i≤j)(h2:j≤l.length)(h3:j≤m)(c:Nat):Sl ee 2 No h ⟨aP s.a i m 2,j-i,c⟩ ((l.drop i).take (j-i)):=Sl.sub hs h1 h2 h3
theorem Mx{h:af}{s:SliceV}{l:List Pr}(hs:Sl ee 2 No h s l)(hc:s.len≤s.cap)(hr:bU l)(hn:l.length≤1000000000)(p:Pr)
  {K:SliceV→af→Prop}(hk:∀s' h',OwnS ee 2 aq(fun b=>h.size≤b) h' s'(Gh l p)→Upd No h h'→K s' h'):HC PG yW [.slice s.a s.len s.cap,.agg #[.string p.1,.string p.2]] [.c .slice] K h:=by
 refine Nu s p ?_;unfold FQ aj;have hlen:=hs.len;have k1:=Upd.hnew No h [.string p.1,.string p.2] aq;have b1:=bW h [.string p.1,.string p.2] aq;refine bC ?_;simp only[cH h];generalize hnew h [.string p.1,.string p.2] aq=h1 at k1 b1;refine⟨p.1,by rw[cd,bj b1];rfl,IU (hs.upd k1 fun _ h=>h.elim) hr hn p.1 fun h2 hu2=>?_⟩
 have hp:=QB l p.1;have hu02:=k1.tr hu2;refine⟨by simp only;omega,?_⟩;let q:=if cp l p.1 then oy l p.1+1 else oy l p.1
 have hq:q≤l.length:=by
  show(if cp l p.1 then oy l p.1+1 else oy l p.1)≤l.length
  split
  ·rename_i ht;obtain⟨h,_⟩:=IB hr ht;omega
  ·exact hp
 refine Join.intro (fun t h'=>h'=h2∧t=⟨aP s.a q s.cap 2,s.len-q,s.cap-q⟩) (fun R hR=>?_) ?_
 ·refine CondP.intro (fun e=>?_)fun e=>hR _ _ ⟨rfl,?_⟩
  ·have e:cp l p.1=true:=e
   obtain⟨hlt,_⟩:=IB hr e;have ew:ac .i64 ((oy l p.1:Int)+1)=((oy l p.1+1:Nat):Int):=by rw[cR (by omega)];omega
   simp only;rw[ew];refine⟨by omega,hR _ _ ⟨rfl,?_⟩⟩;have:q=oy l p.1+1:=by show(if cp l p.1 then _ else _)=_;rw[if_pos e]
   rw[this];rfl
  ·have e:cp l p.1=false:=e
   have:q=oy l p.1:=by show(if cp l p.1 then _ else _)=_;rw[if_neg (by rw[e];decide)]
   rw[this];rfl
 ·rintro t h' ⟨rfl,rfl⟩
  have b2:=hu2.get0 b1;refine⟨by simp only;omega,p.1,by rw[cd,bj b2];rfl,p.2,by rw[cd,bj b2];rfl,?_⟩
  have k3:=Upd.hnew No h' [.string p.1,.string p.2] aq;have b3:=bW h' [.string p.1,.string p.2] aq;refine bC ?_;simp only[cH h'];generalize hnew h' [.string p.1,.string p.2] aq=h3 at k3 b3;refine bC ?_;have hs2:=(hs.upd hu02 fun _ h=>h.elim).upd k3 fun _ h=>h.elim
  have k4:=Upd.hnew No h3 [.slice (aP s.a 0 s.cap 2) ((oy l p.1:Int).toNat-0) (s.cap-0),.slice (some ⟨h'.size,0,none⟩) 1 1,.slice (aP s.a q s.cap 2) (s.len-q) (s.cap-q)] cj;have b4:=bW h3 [.slice (aP s.a 0 s.cap 2) ((oy l p.1:Int).toNat-0) (s.cap-0),.slice (some ⟨h'.size,0,none⟩) 1 1,.slice (aP s.a q s.cap 2) (s.len-q) (s.cap-q)] cj;have hA:=Il hs2 (i:=0) (j:=oy l p.1) (m:=s.cap) (bf _) hp (by omega) (s.cap-0)
  have hB:Sl ee 2 No h3 ⟨some ⟨h'.size,0,none⟩,1,1⟩ [p]:=⟨rfl,fS,fun _=>⟨_,rfl,fun h=>h.elim,pd b3 fun i v hv=>by simpa using hv⟩⟩
  have hC:=Il hs2 (i:=q) (j:=l.length) (m:=s.cap) hq (au _) (by omega) (s.cap-q);rw[←hlen]at hC;rw[List.drop_zero]at hA;rw[aZ (by rw[aO];omega)]at hC;have e0:Gh l p= [l.take (oy l p.1-0),[p],l.drop q].flatten:=by simp[Gh,q]
  refine HS (s:=⟨some (ag h3),3,3⟩) (vs:= [⟨aP s.a 0 s.cap 2,(oy l p.1:Int).toNat-0,s.cap-0⟩,⟨some ⟨h'.size,0,none⟩,1,1⟩,⟨aP s.a q s.cap 2,s.len-q,s.cap-q⟩]) (ls:= [l.take (oy l p.1-0),[p],l.drop q])
   ⟨rfl,fun x=>⟨rfl,Nat.one_pos⟩,fun _=>⟨_,rfl,fun h=>h.elim,pd b4 fun i v hv=>by simpa[Uc]using hv⟩⟩ ⟨hA.upd k4 fun _ h=>h.elim,hB.upd k4 fun _ h=>h.elim,hC.upd k4 fun _ h=>h.elim,trivial⟩ ?_ (by simp)fun s5 h5 ho5 hu5=>?_
  ·simp only[jP,qo,ad,aI,aO,List.length_singleton,List.length_nil];omega
  ·rw[←e0]at ho5
   have hu:=((hu02.tr k3).tr k4);exact hk _ _ (ho5.more fun b hb=>bJ hu.size hb) (hu.tr hu5)
end Go.Proofs
namespace Go.Proofs
open Go.Lift
def ve(n d:Nat):Nat:=(gu n).countP (d.testBit·)
theorem Eb(m n d:Nat):ve (m+n) d=ve m d+ve n (d>>>m):=by
 unfold ve;rw[sS,List.countP_append,List.countP_map];congr 1
 refine List.countP_congr fun i _=>?_
 simp[Nat.testBit_shiftRight]
theorem Oz(d:Nat)(i:Nat):∀n,i≤n→ve n (d&&&(2^i-1))=ve i d:=by
 intro n hn;obtain⟨m,rfl⟩:=Nat.exists_eq_add_of_le hn;rw[Eb];have e1:ve i (d&&&(2^i-1))=ve i d:=by
  unfold ve;refine List.countP_congr fun j hj=>?_
  have:=gv.1 hj;simp[lz,l6,this]
 have e2:ve m ((d&&&(2^i-1))>>>i)=0:=by
  unfold ve;rw[List.countP_eq_zero];intro j _;simp[Nat.testBit_shiftRight,lz,l6];intro h;omega
 omega
theorem Ts(d:Nat):ve 8 (d&&&255)=ve 8 d:=Oz d 8 8 (au _)
theorem y4(n d:Nat):ve n d≤n:=by
 have:=List.countP_le_length (p:=(d.testBit·)) (l:=gu n)
 simpa[ve]using this
theorem rZ(d n:Nat):dG (d:Int) (2^n)=((d>>>n:Nat):Int):=by
 rw[Int.fdiv_eq_ediv_of_nonneg _ (by exact Int.le_of_lt (Int.pow_pos (by decide))),nh];simp
theorem Rr(a b:Nat):(aw (ak .u32) (a:Int)&&&aw (ak .u32) (b:Int)).toNat=(a%4294967296)&&&(b%4294967296):=by
 simp[ak,BitVec.toNat_and,BitVec.toNat_ofInt];rfl
theorem zy{n:Nat}(h:n<4294967296):ac .u32 (n:Int)=(n:Int):=Go.IntWalk.u32_in _ (by omega)
theorem EJ{i:Nat}(hi:i<32){h:af}{K:Bool→af→Prop}(hk:K true h):HC PG nP [.int .i64 i] [.c .bool] K h:=by
 refine Gy i ?_;unfold yo;refine ay (fun _=>?_)fun h=>absurd (Int.natCast_nonneg i) h
 rw[decide_eq_true (by omega)];exact hk
theorem Jj{a b:Nat}(h:b<4294967296):a&&&b<4294967296:=jm Nat.and_le_right h
theorem BU{d i:Nat}(hd:d<4294967296)(hi:i<32){h:af}{K:Bool→af→Prop}(hk:K(d.testBit i) h):HC PG fX [.int .u32 d,.int .i64 i] [.c .bool] K h:=by
 refine Co d i ?_;unfold u0;refine EJ hi (ar.2 ⟨by omega,?_⟩);have e:min (i:Int).toNat (ak .u32)=i:=by rw[aY];exact bG (by show i≤32;omega)
 rw[e,rZ];have e2:=Rr (d>>>i) 1;have hlt:d>>>i<4294967296:=jm (pN d i) hd;rw[kf hlt,show(1:Nat)%4294967296=1 from rfl]at e2
 simp only[Bd];rw[show((1:Nat):Int)=(1:Int)from rfl]at e2
 rw[e2,zy (Jj (by omega))];have e3:(((d>>>i&&&1:Nat):Int)==(1:Int))=d.testBit i:=by
  rw[Bool.eq_iff_iff,beq_iff_eq,Nat.testBit,Nat.and_comm];simp only[bne_iff_ne,ne_eq,Nat.one_and_eq_mod_two];have:(d>>>i)%2<2:=Nat.mod_lt _ (by omega);omega
 rw[e3];exact hk
theorem PB{d i:Nat}(hd:d<4294967296)(hi:i<32):∃w:Nat,ac .u32 (aw (ak .u32) (d:Int)|||aw (ak .u32) (ac .u32 (1*2^(min (i:Int).toNat (ak .u32))))).toNat=(w:Int)∧w<4294967296∧∀j,w.testBit j=(d.testBit j||decide (j=i)):=by
 have e:min (i:Int).toNat (ak .u32)=i:=by rw[aY];exact bG (by show i≤32;omega)
 have hp:2^i<4294967296:=Nat.pow_lt_pow_right (by omega) (show i<32 from hi)
 have e2:(1*2^i:Int)=((2^i:Nat):Int):=by simp
 rw[e,e2,zy hp];refine⟨_,zy (BitVec.isLt _),BitVec.isLt _,fun j=>?_⟩
 rw[BitVec.testBit_toNat,BitVec.getLsbD_or,mI,mI,mJ,mJ,Nat.testBit_two_pow];by_cases hj:j<32
 ·have:decide (j<ak .u32)=true:=decide_eq_true hj
  rw[this];simp[eq_comm]
 ·have h1:decide (j<ak .u32)=false:=decide_eq_false hj
  have h2:d.testBit j=false:=pM (aJ hd (Nat.pow_le_pow_right (n:=2) (by omega) (show 32≤j by omega)))
  rw[h1,h2];simp;omega
theorem NU{d i:Nat}(hd:d<4294967296)(hi:i<32){h:af}{K:Int→af→Prop}(hk:∀w:Nat,w<4294967296→(∀j,w.testBit j=(d.testBit j||decide(j=i)))→K(w:Int) h):HC PG fy [.int .u32 d,.int .i64 i] [.c (.int .u32)] K h:=by
 refine AR d i ?_;unfold tW;refine EJ hi (al.2 ⟨by omega,?_⟩);obtain⟨w,e,h1,h2⟩:=PB hd hi;simp only[Bd];rw[e];exact hk w h1 h2
theorem Jg{d i:Nat}(hd:d<4294967296)(hi:i<32):∃w:Nat,ac .u32 (aw (ak .u32) (d:Int)&&& ~~~aw (ak .u32) (ac .u32 (1*2^(min (i:Int).toNat (ak .u32))))).toNat=(w:Int)∧w<4294967296∧∀j,w.testBit j=(d.testBit j&&decide (j≠i)):=by
 have e:min (i:Int).toNat (ak .u32)=i:=by rw[aY];exact bG (by show i≤32;omega)
 have hp:2^i<4294967296:=Nat.pow_lt_pow_right (by omega) (show i<32 from hi)
 have e2:(1*2^i:Int)=((2^i:Nat):Int):=by simp
 rw[e,e2,zy hp];refine⟨_,zy (BitVec.isLt _),BitVec.isLt _,fun j=>?_⟩
 rw[BitVec.testBit_toNat,BitVec.getLsbD_and,BitVec.getLsbD_not,mI,mI,mJ,mJ,Nat.testBit_two_pow];by_cases hj:j<32
 ·have:decide (j<ak .u32)=true:=decide_eq_true hj
  rw[this];simp[eq_comm]
 ·have h1:decide (j<ak .u32)=false:=decide_eq_false hj
  have h2:d.testBit j=false:=pM (aJ hd (Nat.pow_le_pow_right (n:=2) (by omega) (show 32≤j by omega)))
  rw[h1,h2];simp
theorem Ei{d i:Nat}(hd:d<4294967296)(hi:i<32){h:af}{K:Int→af→Prop}(hk:∀w:Nat,w<4294967296→(∀j,w.testBit j=(d.testBit j&&decide(j≠i)))→K(w:Int) h):HC PG jF [.int .u32 d,.int .i64 i] [.c (.int .u32)] K h:=by
 refine xe d i ?_;unfold qS;refine EJ hi (al.2 ⟨by omega,?_⟩);obtain⟨w,e,h1,h2⟩:=Jg hd hi;simp only[Bd];rw[e];exact hk w h1 h2
abbrev TE:ByteArray:=⟨#[0,1,1,2,1,2,2,3,1,2,2,3,2,3,3,4,1,2,2,3,2,3,3,4,2,3,3,4,3,4,4,5,1,2,2,3,2,3,3,4,2,3,3,4,3,4,4,5,2,3,3,4,3,4,4,5,3,4,4,5,4,5,5,6,1,2,2,3,2,3,3,4,2,3,3,4,3,4,4,5,2,3,3,4,3,4,4,5,3,4,4,5,4,5,5,6,2,3,3,4,3,4,4,5,3,4,4,5,4,5,5,6,3,4,4,5,4,5,5,6,4,5,5,6,5,6,6,7,1,2,2,3,2,3,3,4,2,3,3,4,3,4,4,5,2,3,3,4,3,4,4,5,3,4,4,5,4,5,5,6,2,3,3,4,3,4,4,5,3,4,4,5,4,5,5,6,3,4,4,5,4,5,5,6,4,5,5,6,5,6,6,7,2,3,3,4,3,4,4,5,3,4,4,5,4,5,5,6,3,4,4,5,4,5,5,6,4,5,5,6,5,6,6,7,3,4,4,5,4,5,5,6,4,5,5,6,5,6,6,7,4,5,5,6,5,6,6,7,5,6,6,7,6,7,7,8]⟩
theorem RJ:(gu 256).all (fun b=>decide (TE[b]?=some (tZ (ve 8 b))))=true:=by decide+kernel
theorem Ih{b:Nat}(h:b<256):TE[b]?=some (tZ (ve 8 b)):=of_decide_eq_true (List.all_eq_true.1 RJ b (gv.2 h))
theorem Ja(b:Nat):(tZ (ve 8 b)).toNat=ve 8 b:=by
 have:=y4 8 b;simp;omega
theorem Um(d:Nat):ve 32 d=ve 8 (d>>>24)+ve 8 ((d>>>16)&&&255)+ve 8 ((d>>>8)&&&255)+ve 8 (d&&&255):=by
 rw[Ts,Ts,Ts,show(32:Nat)=8+(8+(8+8))from rfl,Eb,Eb,Eb]
 simp only[←Nat.shiftRight_add,Nat.reduceAdd];omega
set_option maxRecDepth 100000 in
theorem Sc{d:Nat}(hd:d<4294967296){h:af}{K:Int→af→Prop}(hk:K(ve 32 d:Int) h):HC PG j7 [.int .u32 d] [.c (.int .i64)] K h:=by
 refine uM d ?_;unfold oX;have e24:dG (d:Int) (2^(min (24:Int).toNat (ak .u32)))=((d>>>24:Nat):Int):=rZ d 24;have e16:dG (d:Int) (2^(min (16:Int).toNat (ak .u32)))=((d>>>16:Nat):Int):=rZ d 16;have e8:dG (d:Int) (2^(min (8:Int).toNat (ak .u32)))=((d>>>8:Nat):Int):=rZ d 8;have b:∀x:Nat,x<4294967296→ac .u32 (aw (ak .u32) (x:Int)&&&aw (ak .u32) 255).toNat=((x&&&255:Nat):Int):=fun x hx=>by
  have:=Rr x 255;rw[kf hx]at this;rw[show((255:Nat):Int)=(255:Int)from rfl]at this
  rw[this,zy (Jj (by omega))]
 have l24:d>>>24<256:=by rw[nh];omega
 have lb:∀x:Nat,x&&&255<256:=fun x=>jm Nat.and_le_right (by omega)
 have s16:d>>>16<4294967296:=jm (pN d 16) hd;have s8:d>>>8<4294967296:=jm (pN d 8) hd;simp only[Bd];rw[e24,e16,e8,b _ s16,b _ s8,b _ hd];refine⟨by decide,_,by omega,Ih (b:=d>>>24) l24,by decide,_,by omega,Ih (lb _),by decide,_,by omega,Ih (lb _),_,by omega,Ih (lb _),?_⟩
 rw[Ja,Ja,Ja,Ja];simp only[aY];have q1:=y4 8 (d>>>24);have q2:=y4 8 (d>>>16&&&255);have q3:=y4 8 (d>>>8&&&255);have q4:=y4 8 (d&&&255);rw[Um]at hk;have u8:∀n:Nat,n≤255→ac .u8 (n:Int)=(n:Int):=fun n hn=>Go.IntWalk.u8_in _ (by omega)
 rw[←Int.natCast_add,u8 _ (by omega),←Int.natCast_add,u8 _ (by omega),←Int.natCast_add,u8 _ (by omega),cR (by omega)];exact hk
theorem qv{d i:Nat}(hd:d<4294967296)(hi:i<32){h:af}{K:Int→af→Prop}(hk:K(ve i d:Int) h):HC PG c7 [.int .u32 d,.int .i64 i] [.c (.int .i64)] K h:=by
 refine AS d i ?_;unfold tX;refine ay (fun h0=>?_)fun h0=>?_
 ·have:i=0:=by omega
  subst this;exact hk
 ·refine ay (fun h=>by omega)fun _=>⟨by omega,?_⟩
  have e:min (i:Int).toNat (ak .u32)=i:=by rw[aY];exact bG (by show i≤32;omega)
  have hp:2^i<4294967296:=Nat.pow_lt_pow_right (by omega) (show i<32 from hi)
  have hp0:0<2^i:=Nat.pow_pos (by omega);have e2:(1*2^i:Int)=((2^i:Nat):Int):=by simp
  have e3:(((2^i:Nat):Int)-1)=((2^i-1:Nat):Int):=by omega
  simp only[Bd];rw[e,e2,zy hp,e3,zy (show 2^i-1<4294967296 by omega),Rr,kf hd,kf (show 2^i-1<4294967296 by omega),zy (Jj (by omega))]
  refine zj _ ?_;unfold sO;refine Sc (Jj (by omega)) ?_;rw[Oz d i 32 (by omega)];exact hk
end Go.Proofs
namespace Go.Proofs
open Go.Lift
def fm{β:Type}(g:Nat→Option β)(n:Nat):List β:=(gu n).filterMap g
def upd{β:Type}(g:Nat→Option β)(i:Nat)(x:Option β)(j:Nat):Option β:=if j=i then x else g j
theorem TQ{β:Type}{f g:Nat→Option β}:∀l:List Nat,(∀j∈l,f j=g j)→l.filterMap f=l.filterMap g
 | [],_=>rfl
 |j::l,h=>by
  rw[List.filterMap_cons,List.filterMap_cons,h j (ax ..),TQ l fun k hk=>h k (List.mem_cons_of_mem _ hk)]
section
variable {β:Type} {g:Nat→Option β} {d:Nat}
theorem E5(hd:∀c,c<32→d.testBit c=(g c).isSome){i:Nat}(hi:i≤32):(fm g i).length=ve i d:=by
 unfold fm ve;rw[List.length_filterMap_eq_countP];exact List.countP_congr fun j hj=>by rw[hd j (by have:=gv.1 hj;omega)]
theorem qI{i n:Nat}(hi:i<n):fm g n=fm g i++((g i).toList++(gu (n-(i+1))).filterMap fun j=>g (i+1+j)):=by
 unfold fm;have e:n=i+(1+(n-(i+1))):=by omega
 rw[e,sS,pZ,sS];have e2:i+(1+(n-(i+1)))-(i+1)=n-(i+1):=by omega
 rw[e2];congr 1
 rw[List.map_append,pZ,List.map_map];congr 1
 rw[List.filterMap_map];refine TQ _ fun j _=>?_
 show g (i+(1+j))=_
 rw[Nat.add_assoc]
theorem yN{i:Nat}{x:Option β}:fm (upd g i x) i=fm g i:=by
 unfold fm;refine TQ _ fun j hj=>?_
 have:=gv.1 hj;unfold upd;rw[if_neg (by omega)]
theorem wO{i m:Nat}{x:Option β}:((gu m).filterMap fun j=>upd g i x (i+1+j))=(gu m).filterMap fun j=>g (i+1+j):=by
 refine TQ _ fun j _=>?_
 unfold upd;rw[if_neg (by omega)]
theorem QT{i:Nat}(hi:i<32)(hd:∀c,c<32→d.testBit c=(g c).isSome)(hn:g i=none)(x:β):fm (upd g i (some x)) 32=(fm g 32).take (ve i d)++x::(fm g 32).drop (ve i d):=by
 have hl:=E5 hd (i:=i) (by omega);rw[qI (g:=upd g i (some x)) hi,qI (g:=g) hi,yN,wO,hn,cL hl,co hl];simp[upd]
theorem QS{i:Nat}(hi:i<32)(hd:∀c,c<32→d.testBit c=(g c).isSome){y:β}(hn:g i=some y)(x:β):fm (upd g i (some x)) 32=(fm g 32).take (ve i d)++x::(fm g 32).drop (ve i d+1):=by
 have hl:=E5 hd (i:=i) (by omega);rw[qI (g:=upd g i (some x)) hi,qI (g:=g) hi,yN,wO,hn,cL hl,←dF,co hl];simp[upd]
theorem QU{i:Nat}(hi:i<32)(hd:∀c,c<32→d.testBit c=(g c).isSome){y:β}(hn:g i=some y):fm (upd g i none) 32=(fm g 32).take (ve i d)++(fm g 32).drop (ve i d+1):=by
 have hl:=E5 hd (i:=i) (by omega);rw[qI (g:=upd g i none) hi,qI (g:=g) hi,yN,wO,hn,cL hl,←dF,co hl];simp[upd]
theorem QV{i:Nat}(hi:i<32)(hd:∀c,c<32→d.testBit c=(g c).isSome){y:β}(hn:g i=some y):(fm g 32)[ve i d]?=some y:=by
 have hl:=E5 hd (i:=i) (by omega);rw[qI (g:=g) hi,hn,List.getElem?_append_right (by omega),hl,Nat.sub_self];rfl
theorem HM{i:Nat}(hi:i<32)(hd:∀c,c<32→d.testBit c=(g c).isSome){y:β}(hn:g i=some y):ve i d<(fm g 32).length:=(List.getElem?_eq_some_iff.1 (QV hi hd hn)).1
theorem SX{i:Nat}(hi:i<32)(hd:∀c,c<32→d.testBit c=(g c).isSome):ve i d≤(fm g 32).length:=by
 have hl:=E5 hd (i:=i) (by omega);rw[qI (g:=g) hi,ad];omega
theorem Al:(fm g 32).length≤32:=by
 have:=List.length_filterMap_le g (gu 32);simpa[fm]using this
end
end Go.Proofs
namespace Go.Proofs
open Go.Lift
abbrev sv(s:SliceV):Value:=.slice s.a s.len s.cap
structure Slots where
 p:Nat→Option Pr
 k:Nat→Option (Option Addr)
def fj(d n:Nat)(sp sk:SliceV)(bu:Bool)(ow:Option Addr):Array Value:= #[.int .u32 (d:Int),.int .u32 (n:Int),sv sp,sv sk,.bool bu,.pointer ow]
structure BitsOf(d n:Nat)(s:Slots):Prop where
 d32:d<4294967296
 n32:n<4294967296
 dp:∀c,c<32→d.testBit c=(s.p c).isSome
 nk:∀c,c<32→n.testBit c=(s.k c).isSome
structure NodeAt(W:Nat→Prop)(h:af)(b:Nat)(s:Slots):Prop where
 ex:∃d n sp sk ow,h[b]?=some (.cells (fj d n sp sk false ow) bw (0,0))∧BitsOf d n s∧Sl ee 2 W h sp (fm s.p 32)∧Sl q9 1 W h sk (fm s.k 32)∧sp.len≤sp.cap∧sk.len≤sk.cap
 nw:¬W b
theorem NodeAt.upd{W M:Nat→Prop}{h h':af}{b:Nat}{s:Slots}(n:NodeAt W h b s)(k:Upd M h h')(hm:∀b,M b→W b∨h.size≤b):NodeAt W h' b s:=by
 obtain⟨d,m,sp,sk,ow,h1,h2,h3,h4,h5,h6⟩:=n.ex;exact⟨⟨d,m,sp,sk,ow,k.get h1 (fun hb=>(hm _ hb).elim n.nw fun h=>by have:=bD h1;omega),h2,h3.upd k hm,h4.upd k hm,h5,h6⟩,n.nw⟩
structure OwnN(M:Nat→Prop)(h:af)(b d n:Nat)(sp sk:SliceV)(s:Slots)(ow:Option Addr):Prop where
 blk:h[b]?=some (.cells (fj d n sp sk false ow) bw (0,0))
 bits:BitsOf d n s
 ex:∃A B:Nat→Prop,OwnS ee 2 aq A h sp (fm s.p 32)∧OwnS q9 1 bN B h sk (fm s.k 32)∧(∀x,A x→M x∧¬B x∧x≠b∧x<h.size)∧(∀x,B x→M x∧x≠b∧x<h.size)
 mb:M b
theorem wK{h:af}{K:Bool→af→Prop}(hk:K false h):HC PG gS [.pointer none] [.c .bool] K h:=by
 refine y8 none ?_;unfold sF aj;exact al.2 hk
theorem Hl{b:Nat}{h:af}{K:Bool→af→Prop}(hk:K false h):HC PG pt [.pointer (some ⟨b,0,none⟩),.pointer none] [.c .bool] K h:=by
 refine AL _ none ?_;unfold tQ aj;exact ar.2 (wK (al.2 hk))
theorem OwnN.upd{M M':Nat→Prop}{h h':af}{b d n:Nat}{sp sk:SliceV}{s:Slots}{ow:Option Addr}(o:OwnN M h b d n sp sk s ow)(k:Upd M' h h')(hm:∀x,M' x→¬M x):OwnN M h' b d n sp sk s ow:=by
 obtain⟨A,B,h1,h2,h3,h4⟩:=o.ex;have z:=k.size;exact⟨k.get o.blk fun hb=>hm _ hb o.mb,o.bits,⟨A,B,h1.upd k fun x hx hy=>hm _ hy (h3 x hx).1,h2.upd k fun x hx hy=>hm _ hy (h4 x hx).1,fun x hx=>⟨(h3 x hx).1,(h3 x hx).2.1,(h3 x hx).2.2.1,by have:=(h3 x hx).2.2.2;omega⟩,fun x hx=>⟨(h4 x hx).1,(h4 x hx).2.1,by have:=(h4 x hx).2.2;omega⟩⟩,o.mb⟩
set_option maxRecDepth 4000 in
theorem My{W:Nat→Prop}{h:af}{b:Nat}{s:Slots}(nd:NodeAt W h b s){K:Option Addr→af→Prop}
  (hk:∀h' d n sp sk,OwnN(fun x=>h.size≤x) h' h.size d n sp sk s none→Upd No h h'→K(some ⟨h.size,0,none⟩) h'):
  HC PG gE [.pointer (some ⟨b,0,none⟩),.pointer none] [.c .ptr] K h:=by
 obtain⟨d,n,sp,sk,ow,hb,bits,hsp,hsk,hcp,hck⟩:=nd.ex;refine vX _ none ?_;unfold rj aj;refine Hl (al.2 ?_);have c:∀{h:af} {b:Nat} {c:Array Value} {i:Nat},h[b]?=some (.cells c bw (0,0))→aN h ⟨b,0+i,none⟩=c[i]?:=fun hb=>by rw[aQ];exact bj hb
 refine⟨_,rfl,_,c (i:=0) hb,_,c (i:=1) hb,sp,c (i:=2) hb,sk,c (i:=3) hb,_,c (i:=4) hb,_,c (i:=5) hb,?_⟩;have k1:=Upd.hnew No h [.int .u32 0,.int .u32 0,.slice none 0 0,.slice none 0 0,.bool false,.pointer none] bw;have b1:=bW h [.int .u32 0,.int .u32 0,.slice none 0 0,.slice none 0 0,.bool false,.pointer none] bw;refine bC ?_;simp only[cH h];generalize hnew h [.int .u32 0,.int .u32 0,.slice none 0 0,.slice none 0 0,.bool false,.pointer none] bw=h1 at k1 b1
 have hs1:aV h1 ⟨h.size,0,none⟩ 0 [.int .u32 (d:Int),.int .u32 (n:Int),.slice sp.a sp.len sp.cap,.slice sk.a sk.len sk.cap,.bool false,.pointer ow]=_:=ju _ h1 0 0 _ b1 (by simp);refine⟨.inr ⟨_,rfl,fun j hj=>by rw[cd];exact ir b1 (by simp at hj⊢;omega)⟩,bC ?_⟩
 rw[hs1];have b2:=jo (o:=.cells (fj d n sp sk false ow) bw (0,0)) b1;have k2:Upd No h _:=k1.trans (M':=(·=h.size)) (Upd.set h1 (.cells (fj d n sp sk false ow) bw (0,0)) rfl)fun x hx=>.inr (fh hx.symm)
 have hz2:h.size<(h1.setIfInBounds h.size (.cells (fj d n sp sk false ow) bw (0,0))).size:=bD b2;have hbb:h.size≠b:=fun e=>by have:=bD hb;omega
 have e2:(Obj.cells (List.take (0+0) [Value.int .u32 0,.int .u32 0,.slice none 0 0,.slice none 0 0,.bool false,.pointer none]++ [Value.int .u32 (d:Int),.int .u32 (n:Int),.slice sp.a sp.len sp.cap,.slice sk.a sk.len sk.cap,.bool false,.pointer ow]++List.drop (0+0+ [Value.int .u32 (d:Int),.int .u32 (n:Int),.slice sp.a sp.len sp.cap,.slice sk.a sk.len sk.cap,.bool false,.pointer ow].length) [Value.int .u32 0,.int .u32 0,.slice none 0 0,.slice none 0 0,.bool false,.pointer none]).toArray bw (0,0))=.cells (fj d n sp sk false ow) bw (0,0):=rfl
 rw[e2];generalize h1.setIfInBounds h.size (.cells (fj d n sp sk false ow) bw (0,0))=h2 at b2 k2 hz2;have hb2:=k2.get0 hb;refine⟨_,rfl,sp,c (i:=2) hb2,_,rfl,sk,c (i:=3) hb2,?_⟩;refine uH (hsp.upd k2 fun _ h=>h.elim) (by have:=Al (g:=s.p);omega)fun s3 h3 ho3 hu3=>?_
 refine⟨c (i:=3) (hu3.get0 hb2),?_⟩;refine B5 ((hsk.upd k2 fun _ h=>h.elim).upd hu3 fun _ h=>h.elim) (by have:=Al (g:=s.k);omega)fun s4 h4 ho4 hu4=>?_
 have b4:=hu4.get0 (hu3.get0 b2);have ho3':=ho3.within.upd hu4 fun _ _ h=>h
 have ho4':=ho4.within;have z3:=hu3.size;have z4:=hu4.size;have w:∀{h:af} {c:Array Value} {x i:Nat},h[x]?=some (.cells c bw (0,0))→i<c.size→Wr h ⟨x,0+i,none⟩:=fun hb hi=>by rw[aQ];exact ir hb hi
 have st:∀{h:af} {c c':Array Value} {x i:Nat} {v:Value} {k:af→Prop},h[x]?=some (.cells c bw (0,0))→c.setIfInBounds i v=c'→(∀h',h'[x]?=some (.cells c' bw (0,0))→Upd (·=x) h h'→k h')→At (hset h ⟨x,i,none⟩ v) k:=fun hb e hk=>xa hb fun h' hb' hu=>hk h' (e▸hb') hu
 refine⟨w (i:=2) b4 (show 2<6 by decide),st (i:=2) (c':=fj d n s3 sk false ow) b4 rfl fun h5 b5 hu5=>?_⟩
 refine⟨w (i:=3) b5 (show 3<6 by decide),st (i:=3) (c':=fj d n s3 s4 false ow) b5 rfl fun h6 b6 hu6=>?_⟩
 refine⟨w (i:=5) b6 (show 5<6 by decide),st (i:=5) (c':=fj d n s3 s4 false none) b6 rfl fun h7 b7 hu7=>?_⟩
 refine wK (al.2 ?_);have hu47:=hu5.tr (hu6.tr hu7);have z7:=hu47.size;refine hk _ d n s3 s4 ⟨b7,bits,⟨fun x=>h2.size≤x∧x<h3.size,fun x=>h3.size≤x∧x<h4.size,ho3'.upd hu47 fun x hx e=>by have e:x=h.size:=e;omega,ho4'.upd hu47 fun x hx e=>by have e:x=h.size:=e;omega,fun x hx=>⟨by omega,by omega,by omega,by omega⟩,fun x hx=>⟨by omega,by omega,by omega⟩⟩,au _⟩ ?_
 exact((k2.tr hu3).tr hu4).trans hu47 fun x hx=>.inr (fh hx.symm)
end Go.Proofs
namespace Go.Proofs
open Go.Lift
theorem uu{β:Type}{g:Nat→Option β}{i:Nat}(h:g i=none):upd g i none=g:=by
 funext j;unfold upd;split
 ·rename_i e;rw[e,h]
 ·rfl
theorem eN{h:af}{b:Nat}{c:Array Value}{t:TypeId}{i:Nat}(hb:h[b]?=some(.cells c t(0,0))):aN h ⟨b,0+i,none⟩=c[i]?:=by rw[aQ];exact bj hb
theorem RD{h:af}{b:Nat}{c:Array Value}{t:TypeId}{i:Nat}(hb:h[b]?=some(.cells c t(0,0)))(hi:i<c.size):Wr h ⟨b,0+i,none⟩:=by rw[aQ];exact ir hb hi
theorem Ge{h:af}{b:Nat}{c c':Array Value}{t:TypeId}{i:Nat}{v:Value}{k:af→Prop}(hb:h[b]?=some(.cells c t(0,0)))(e:c.setIfInBounds i v=c')
 (hk:∀h',h'[b]?=some(.cells c' t(0,0))→Upd(·=b) h h'→k h'):At(hset h ⟨b,i,none⟩ v) k:=xa hb fun h' hb' hu=>hk h'(e▸hb') hu
theorem IY{M:Nat→Prop}{h:af}{b d n:Nat}{sp sk:SliceV}{s:Slots}{ow:Option Addr}(o:OwnN M h b d n sp sk s ow){i:Nat}(hi:i<32){K:Unit→af→Prop}
  (hk:∀h' d' n' sp' sk',OwnN M h' b d' n' sp' sk' ⟨upd s.p i none,upd s.k i none⟩ ow→Upd M h h'→K() h'):HC PG jC [.pointer (some ⟨b,0,none⟩),.int .i64 i] [] K h:=by
 obtain⟨A,B,hA,hB,hAm,hBm⟩:=o.ex;have bits:=o.bits;refine AJ _ i ?_;unfold tO aj;have ew:∀k:Nat,k≤100→ac .i64 ((k:Int)+1)=((k+1:Nat):Int):=fun k hk=>by rw[cR (by omega)];omega
 have hc1:=y4 i d;have hc2:=y4 i n;have hAM:∀x,A x→M x∨h.size≤x:=fun x hx=>.inl (hAm x hx).1
 refine Join.intro (fun _ h'=>∃sp',h'[b]?=some (.cells (fj d n sp' sk false ow) bw (0,0))∧OwnS ee 2 aq A h' sp' (fm (upd s.p i none) 32)∧OwnS q9 1 bN B h' sk (fm s.k 32)∧Upd M h h') (fun R hR=>?_) ?_
 ·refine⟨_,rfl,_,eN (i:=0) o.blk,BU bits.d32 hi ?_⟩
  rw[bits.dp i hi];cases hp:s.p i with
  |none=>exact al.2 (hR _ _ ⟨sp,o.blk,by rw[uu hp];exact hA,hB,Upd.refl _ _⟩)
  |some y=>
   refine ar.2 ⟨_,rfl,_,eN (i:=0) o.blk,qv bits.d32 hi ⟨_,rfl,sp,eN (i:=2) o.blk,?_⟩⟩;rw[ew _ (by omega)];refine M0 hA (HM hi bits.dp hp) (by have:=Al (g:=s.p);omega)fun s2 h2 ho2 hu2=>?_
   rw[←QU hi bits.dp hp]at ho2;have b2:=hu2.get o.blk fun hb=>(hAm b hb).2.2.1 rfl
   refine⟨_,rfl,RD (i:=2) b2 (show 2<6 by decide),Ge (i:=2) (c':=fj d n s2 sk false ow) b2 rfl fun h3 b3 hu3=>?_⟩
   refine hR _ _ ⟨s2,b3,ho2.upd hu3 fun x hx e=>(hAm x hx).2.2.1 e,(hB.upd hu2 fun x hx hy=>(hAm x hy).2.1 hx).upd hu3 fun x hx e=>(hBm x hx).2.1 e,(hu2.mono hAM).tr (hu3.mono fun x e=>.inl (e▸o.mb))⟩
 rintro _ h1 ⟨sp1,b1,hA1,hB1,hu1⟩;refine Join.intro (fun _ h'=>∃sk',h'[b]?=some (.cells (fj d n sp1 sk' false ow) bw (0,0))∧OwnS ee 2 aq A h' sp1 (fm (upd s.p i none) 32)∧OwnS q9 1 bN B h' sk' (fm (upd s.k i none) 32)∧Upd M h1 h') (fun R hR=>?_) ?_
 ·refine⟨_,rfl,_,eN (i:=1) b1,BU bits.n32 hi ?_⟩
  rw[bits.nk i hi];cases hp:s.k i with
  |none=>exact al.2 (hR _ _ ⟨sk,b1,hA1,by rw[uu hp];exact hB1,Upd.refl _ _⟩)
  |some y=>
   refine ar.2 ⟨_,rfl,_,eN (i:=1) b1,qv bits.n32 hi ⟨_,rfl,sk,eN (i:=3) b1,?_⟩⟩;rw[ew _ (by omega)];refine M1 hB1 (HM hi bits.nk hp) (by have:=Al (g:=s.k);omega)fun s2 h2 ho2 hu2=>?_
   rw[←QU hi bits.nk hp]at ho2;have b2:=hu2.get b1 fun hb=>(hBm b hb).2.1 rfl
   refine⟨_,rfl,RD (i:=3) b2 (show 3<6 by decide),Ge (i:=3) (c':=fj d n sp1 s2 false ow) b2 rfl fun h3 b3 hu3=>?_⟩
   refine hR _ _ ⟨s2,b3,(hA1.upd hu2 fun x hx hy=>(hAm x hx).2.1 hy).upd hu3 fun x hx e=>(hAm x hx).2.2.1 e,ho2.upd hu3 fun x hx e=>(hBm x hx).2.1 e,(hu2.mono fun x hx=>.inl (hBm x hx).1).tr (hu3.mono fun x e=>.inl (e▸o.mb))⟩
 rintro _ h2 ⟨sk2,b2,hA2,hB2,hu2⟩;refine⟨_,rfl,_,eN (i:=0) b2,_,rfl,_,eN (i:=1) b2,?_⟩;refine Ei bits.d32 hi fun d' hd' hdt=>⟨eN (i:=1) b2,?_⟩
 refine Ei bits.n32 hi fun n' hn' hnt=>?_
 refine⟨_,rfl,RD (i:=0) b2 (show 0<6 by decide),Ge (i:=0) (c':=fj d' n sp1 sk2 false ow) b2 rfl fun h3 b3 hu3=>?_⟩
 refine⟨_,rfl,RD (i:=1) b3 (show 1<6 by decide),Ge (i:=1) (c':=fj d' n' sp1 sk2 false ow) b3 rfl fun h4 b4 hu4=>?_⟩
 have hu34:=hu3.tr hu4;have z:=(hu1.tr (hu2.tr (hu34.mono (M':=M)fun x e=>.inl (e▸o.mb)))).size
 refine hk h4 d' n' sp1 sk2 ⟨b4,⟨hd',hn',fun c hc=>?_,fun c hc=>?_⟩,⟨A,B,hA2.upd hu34 fun x hx e=>(hAm x hx).2.2.1 e,hB2.upd hu34 fun x hx e=>(hBm x hx).2.1 e,fun x hx=>⟨(hAm x hx).1,(hAm x hx).2.1,(hAm x hx).2.2.1,by have:=(hAm x hx).2.2.2;omega⟩,fun x hx=>⟨(hBm x hx).1,(hBm x hx).2.1,by have:=(hBm x hx).2.2;omega⟩⟩,o.mb⟩ (hu1.tr (hu2.tr (hu34.mono fun x e=>.inl (e▸o.mb))))
 ·rw[hdt,bits.dp c hc];simp only[upd];split<;>simp[*]
 ·rw[hnt,bits.nk c hc];simp only[upd];split<;>simp[*]
end Go.Proofs
namespace Go.Proofs
open Go.Lift
theorem OwnS.setAt{α:Type}{f:α→List Value}{sz:Nat}{t:TypeId}{M:Nat→Prop}{h:af}{s:SliceV}{xs:List α}(hs:OwnS f sz t M h s xs){k:Nat}(hkl:k<xs.length)(x:α):
  ∃a,s.a=some a∧M a.block∧dq h (some (adr a (k*sz))) 0 (f x)∧OwnS f sz t M (aV h (adr a (k*sz)) 0 (f x)) s (xs.take k++x::xs.drop (k+1))∧Upd (·=a.block) h (aV h (adr a (k*sz)) 0 (f x)):=by
 have hf:∀x,(f x).length=sz∧0<sz:=hs.ne;have hlen:=hs.len;have hcap:=hs.cap;rcases hs.blk with h0|⟨b,rest,ha,hb,hc,hr⟩
 ·omega
 have hA:((xs.take k).flatMap f).length=k*sz:=by rw[kM hf,aI,bG (by omega)]
 have e1:xs.flatMap f=(xs.take k).flatMap f++(f xs[k]++(xs.drop (k+1)).flatMap f):=by
  rw[←aX,←List.drop_eq_getElem_cons hkl];exact yZ xs k
 rw[e1]at hc;have hX:=(hf xs[k]).1;have hY:=(hf x).1;have hins:(xs.take k++x::xs.drop (k+1)).flatMap f=(xs.take k).flatMap f++(f x++(xs.drop (k+1)).flatMap f):=by rw[List.flatMap_append,aX]
 generalize (xs.take k).flatMap f=A at hA hc hins;generalize (xs.drop (k+1)).flatMap f=B at hc hins;generalize f xs[k]=X at hX hc;have hl:k*sz+0+(f x).length≤(A++(X++B)++rest).length:=by simp only[ad];omega
 have ea:adr ⟨b,0,none⟩ (k*sz)=⟨b,k*sz,none⟩:=by rw[cd,aQ]
 refine⟨⟨b,0,none⟩,ha,hb,?_,?_,?_⟩
 ·rw[ea]
  refine.inr ⟨_,rfl,fun j hj=>?_⟩
  rw[cd];exact ir hc (by rw[List.size_toArray];omega)
 ·rw[ea,ju (f x) h 0 (k*sz) _ hc hl]
  refine⟨by simp;omega,hf,hcap,.inr ⟨b,rest,ha,hb,?_,?_⟩⟩
  ·rw[jo hc,hins]
   congr 3
   rw[Nat.add_zero,aA A,cL hA,←dF,co hA,aA X,co (by omega)];simp only[aA]
  ·exact hr
 ·rw[ea,ju (f x) h 0 (k*sz) _ hc hl]
  exact Upd.set h _ rfl
theorem OwnN.node{M W:Nat→Prop}{h:af}{b d n:Nat}{sp sk:SliceV}{s:Slots}{ow:Option Addr}(o:OwnN M h b d n sp sk s ow)(hW:∀x,M x→¬W x):NodeAt W h b s:=by
 obtain⟨A,B,h1,h2,h3,h4⟩:=o.ex;exact⟨⟨d,n,sp,sk,ow,o.blk,o.bits,h1.sl fun x hx _=>hW _ (h3 x hx).1,h2.sl fun x hx _=>hW _ (h4 x hx).1,h1.cap,h2.cap⟩,hW _ o.mb⟩
theorem E0{W:Nat→Prop}{h:af}{b:Nat}{s:Slots}(nd:NodeAt W h b s){i:Nat}(hi:i<32){K:Bool→af→Prop}(hk:K true h):HC PG jD [.pointer (some ⟨b,0,none⟩),.int .i64 i] [.c .bool] K h:=by
 obtain⟨d,n,sp,sk,ow,hb,_⟩:=nd.ex;refine AK _ i ?_;unfold tP aj;refine ar.2 ⟨_,rfl,_,eN (i:=4) hb,ar.2 ?_⟩;refine ay (fun _=>?_)fun h=>absurd (Int.natCast_nonneg i) h
 rw[decide_eq_true (by omega)];exact hk
theorem NV{β:Type}{g:Nat→Option β}{i:Nat}{x y:Option β}:upd (upd g i x) i y=upd g i y:=by
 funext j;unfold upd;split<;>rfl
theorem fH{β:Type}{g:Nat→Option β}{i:Nat}{x:Option β}:upd g i x i=x:=by simp[upd]
theorem p7{W:Nat→Prop}{h:af}{b:Nat}{s:Slots}(nd:NodeAt W h b s)(hW:∀x,W x→x<h.size){i:Nat}(hi:i<32)(hx:∀y,s.p i=some y→s.k i=none)(p:Pr){K:Option Addr→af→Prop}
  (hk:∀h' b',NodeAt W h' b' ⟨upd s.p i(some p),upd s.k i none⟩→Upd No h h'→K(some ⟨b',0,none⟩) h'):
  HC PG dP [.pointer (some ⟨b,0,none⟩),.pointer none,.int .i64 i,.agg #[.string p.1,.string p.2]] [.c .ptr] K h:=by
 refine xO _ none i p ?_;unfold rB aj bP;have k1:=Upd.hnew No h [.string p.1,.string p.2] aq;have b1:=bW h [.string p.1,.string p.2] aq;refine bC ?_;simp only[cH h];generalize hnew h [.string p.1,.string p.2] aq=h1 at k1 b1;have z1:=bD b1;have nd1:=nd.upd k1 fun _ h=>h.elim
 refine E0 nd1 hi (al.2 ?_);refine My nd1 fun h2 d n sp sk o hu2=>?_
 have bits:=o.bits;obtain⟨A,B,hA,hB,hAm,hBm⟩:=o.ex;have hu02:=k1.tr hu2;have b12:=hu2.get0 b1;have hMW:∀x,h1.size≤x→¬W x:=fun x hx hw=>by have:=hW x hw;omega
 refine⟨_,rfl,_,eN (i:=0) o.blk,BU bits.d32 hi ?_⟩;rw[bits.dp i hi];cases hp:s.p i with
 |some y=>
  refine ar.2 ⟨_,rfl,sp,eN (i:=2) o.blk,_,rfl,_,eN (i:=0) o.blk,p.1,by rw[cd,bj b12];rfl,p.2,by rw[cd,bj b12];rfl,?_⟩
  refine qv bits.d32 hi ⟨⟨by rw[cd,bj b12];rfl,by rw[cd,bj b12];rfl⟩,eN (i:=2) o.blk,?_⟩
  have hlt:=HM hi bits.dp hp;obtain⟨a,ha,hab,hw,ho3,hu3⟩:=OwnS.setAt hA hlt p;have hlen:=hA.len;refine⟨by omega,a,ha,?_⟩;rw[aY];refine⟨hw,bC ?_⟩;rw[←QS hi bits.dp hp]at ho3;have ob:=hu3.get o.blk fun e=>(hAm _ hab).2.2.1 e.symm
  have z3:=hu3.size;have o3:OwnN (fun x=>h1.size≤x) _ h1.size d n sp sk ⟨upd s.p i (some p),upd s.k i none⟩ none:=⟨ob,⟨bits.d32,bits.n32,fun c hc=>by
    rw[bits.dp c hc];simp only[upd];split
    ·rename_i e;rw[e,hp];rfl
    ·rfl,fun c hc=>by rw[bits.nk c hc,uu (hx y hp)]⟩,
   ⟨A,B,ho3,by rw[uu (hx y hp)];exact hB.upd hu3 fun x hx e=>(hAm _ hab).2.1 (e▸hx),fun x hx=>⟨(hAm x hx).1,(hAm x hx).2.1,(hAm x hx).2.2.1,by have:=(hAm x hx).2.2.2;omega⟩,fun x hx=>⟨(hBm x hx).1,(hBm x hx).2.1,by have:=(hBm x hx).2.2;omega⟩⟩,o.mb⟩
  refine hk _ _ (o3.node hMW) (hu02.trans hu3 fun x hx=>.inr ?_)
  have:=(hAm _ hab).1;have hx:x=a.block:=hx;omega
 |none=>
  refine al.2 ⟨_,rfl,IY o hi fun h3 d3 n3 sp3 sk3 o3 hu3=>?_⟩
  have bits3:=o3.bits;obtain⟨A3,B3,hA3,hB3,hAm3,hBm3⟩:=o3.ex;have z2:=hu2.size;have z3:=hu3.size;have b13:=hu3.get b12 (show ¬h1.size≤h.size by omega)
  have hu03:Upd No h h3:=hu02.trans hu3 fun x hx=>.inr (bJ (Nat.le_of_lt z1) hx)
  refine⟨_,rfl,sp3,eN (i:=2) o3.blk,_,rfl,_,eN (i:=0) o3.blk,p.1,by rw[cd,bj b13];rfl,p.2,by rw[cd,bj b13];rfl,?_⟩
  have k4:=Upd.hnew No h3 [.string p.1,.string p.2] aq;have b4:=bW h3 [.string p.1,.string p.2] aq;have z4:=ja h3 [.string p.1,.string p.2] aq;have o4:=o3.upd k4 fun _ h=>h.elim
  have fin:HC PG cP [.slice sp3.a sp3.len sp3.cap,.int .i64 (ve i d3),.slice (some (ag h3)) 1 1] [.c .slice] (fun(e32:SliceV) h33=>
       ∃a34:Addr,some (⟨h1.size,0,none⟩:Addr)=some a34∧
       (Wr h33 (adr (adr a34 0) 2)∧
        At (hset h33 (adr (adr a34 0) 2) (.slice e32.a e32.len e32.cap)) (fun h35=>
         ∃a36:Addr,some (⟨h1.size,0,none⟩:Addr)=some a36∧
         ∃v37:Int,aN h35 (adr (adr a36 0) 0)=some (.int .u32 v37)∧
         HC PG fy [.int .u32 v37,.int .i64 i] [.c (.int .u32)] (fun(e38:Int) h39=>
          ∃a40:Addr,some (⟨h1.size,0,none⟩:Addr)=some a40∧
          (Wr h39 (adr (adr a40 0) 0)∧
           At (hset h39 (adr (adr a40 0) 0) (.int .u32 e38)) (fun h41=>
            K (some ⟨h1.size,0,none⟩) h41))) h35))) (hnew h3 [.string p.1,.string p.2] aq):=by
   generalize hnew h3 [.string p.1,.string p.2] aq=h4 at k4 b4 z4 o4;rw[cH h3];have hA4:=(hA3.upd k4 fun _ _ h=>h).more (M':=fun x=>A3 x∨h4.size≤x)fun x hx=>.inl hx
   have hpn:(⟨upd s.p i none,upd s.k i none⟩:Slots).p i=none:=fH;refine MN hA4 (SX hi bits3.dp) (by have:=Al (g:=(⟨upd s.p i none,upd s.k i none⟩:Slots).p);omega) (x:=p) b4 (fun e=>e.elim (fun e=>by have:=(hAm3 _ e).2.2.2;omega)fun e=>by omega) (fun x hx=>.inr hx)fun s5 h5 ho5 hu5=>?_
   rw[←QT hi bits3.dp hpn p]at ho5;have hbl:h1.size<h3.size:=bD o3.blk;have b5:=hu5.get o4.blk fun e=>e.elim (fun e=>(hAm3 _ e).2.2.1 rfl)fun e=>by omega
   refine⟨_,rfl,RD (i:=2) b5 (show 2<6 by decide),Ge (i:=2) (c':=fj d3 n3 s5 sk3 false none) b5 rfl fun h6 b6 hu6=>?_⟩
   refine⟨_,rfl,_,eN (i:=0) b6,NU bits3.d32 hi fun w hw hwt=>?_⟩
   refine⟨_,rfl,RD (i:=0) b6 (show 0<6 by decide),Ge (i:=0) (c':=fj w n3 s5 sk3 false none) b6 rfl fun h7 b7 hu7=>?_⟩
   have hu57:=hu6.tr hu7;have z5:=hu5.size;have z7:=hu57.size;have ho5':=ho5.within;have e1:(⟨upd (⟨upd s.p i none,upd s.k i none⟩:Slots).p i (some p),upd s.k i none⟩:Slots)=⟨upd s.p i (some p),upd s.k i none⟩:=by rw[NV]
   have o7:OwnN (fun x=>h1.size≤x) h7 h1.size w n3 s5 sk3 ⟨upd s.p i (some p),upd s.k i none⟩ none:=by
    rw[←e1];refine⟨b7,⟨hw,bits3.n32,fun c hc=>?_,bits3.nk⟩,⟨fun x=>(A3 x∨h4.size≤x)∧x<h5.size,B3,ho5'.upd hu57 fun x hx e=>?_,((hB3.upd k4 fun _ _ h=>h).upd hu5 fun x hx e=>?_).upd hu57 fun x hx e=>(hBm3 x hx).2.1 e,fun x hx=>⟨?_,?_,?_,by omega⟩,fun x hx=>⟨(hBm3 x hx).1,(hBm3 x hx).2.1,by have:=(hBm3 x hx).2.2;omega⟩⟩,o.mb⟩
    ·rw[hwt,bits3.dp c hc];simp only[upd];split<;>simp[*]
    ·have e:x=h1.size:=e
     rcases hx.1 with h|h
     ·exact(hAm3 x h).2.2.1 e
     ·omega
    ·rcases e with e|e
     ·exact(hAm3 x e).2.1 hx
     ·have:=(hBm3 x hx).2.2;omega
    ·rcases hx.1 with h|h
     ·exact(hAm3 x h).1
     ·omega
    ·rcases hx.1 with h|h
     ·exact(hAm3 x h).2.1
     ·exact fun hb=>by have:=(hBm3 x hb).2.2;omega
    ·rcases hx.1 with h|h
     ·exact(hAm3 x h).2.2.1
     ·omega
   refine hk _ _ (o7.node hMW) (((hu03.tr k4).trans hu5 fun x hx=>.inr ?_).trans hu57 fun x hx=>.inr ?_)
   ·rcases hx with h|h
    ·have:=(hAm3 x h).1;omega
    ·omega
   ·have hx:x=h1.size:=hx
    omega
  refine⟨qv bits3.d32 hi ⟨⟨by rw[cd,bj b13];rfl,by rw[cd,bj b13];rfl⟩,eN (i:=2) o3.blk,bC ⟨eN (i:=2) o4.blk,fin⟩⟩,bC ⟨eN (i:=0) o4.blk,eN (i:=2) o4.blk,qv bits3.d32 hi ⟨eN (i:=2) o4.blk,fin⟩⟩⟩
end Go.Proofs
namespace Go.Proofs
open Go.Lift
theorem Q9{W:Nat→Prop}{h:af}{b:Nat}{s:Slots}(nd:NodeAt W h b s)(hW:∀x,W x→x<h.size){i:Nat}(hi:i<32){K:Option Addr→af→Prop}
  (hk:∀h' b',NodeAt W h' b' ⟨upd s.p i none,upd s.k i none⟩→Upd No h h'→K(some ⟨b',0,none⟩) h'):
  HC PG l0 [.pointer (some ⟨b,0,none⟩),.pointer none,.int .i64 i] [.c .ptr] K h:=by
 refine AN _ none i ?_;unfold tS;refine E0 nd hi (al.2 ?_);refine My nd fun h2 d n sp sk o hu2=>⟨_,rfl,IY o hi fun h3 d3 n3 sp3 sk3 o3 hu3=>?_⟩
 exact hk _ _ (o3.node fun x hx hw=>by have:=hW x hw;omega) (hu2.trans hu3 fun x hx=>.inr hx)
theorem uw{W:Nat→Prop}{h:af}{b:Nat}{s:Slots}(nd:NodeAt W h b s)(hW:∀x,W x→x<h.size){i:Nat}(hi:i<32)(hx:∀y,s.k i=some y→s.p i=none)(kid:Addr){K:Option Addr→af→Prop}
  (hk:∀h' b',NodeAt W h' b' ⟨upd s.p i none,upd s.k i(some(some kid))⟩→Upd No h h'→K(some ⟨b',0,none⟩) h'):
  HC PG eX [.pointer (some ⟨b,0,none⟩),.pointer none,.int .i64 i,.pointer (some kid)] [.c .ptr] K h:=by
 refine zi _ none i (some kid) ?_;unfold sN aj bP;refine al.2 ?_;refine E0 nd hi (al.2 ?_);refine My nd fun h2 d n sp sk o hu2=>?_
 have bits:=o.bits;obtain⟨A,B,hA,hB,hAm,hBm⟩:=o.ex;have hMW:∀x,h.size≤x→¬W x:=fun x hx hw=>by have:=hW x hw;omega
 refine⟨_,rfl,_,eN (i:=1) o.blk,BU bits.n32 hi ?_⟩;rw[bits.nk i hi];cases hp:s.k i with
 |some y=>
  refine ar.2 ⟨_,rfl,sk,eN (i:=3) o.blk,_,rfl,_,eN (i:=1) o.blk,?_⟩;refine qv bits.n32 hi ⟨eN (i:=3) o.blk,?_⟩;have hlt:=HM hi bits.nk hp;obtain⟨a,ha,hab,hw,ho3,hu3⟩:=OwnS.setAt hB hlt (some kid);have hlen:=hB.len;refine⟨by omega,a,ha,?_⟩;rw[aY];have hw1:Wr h2 (adr a (ve i n*1)):=by
   rcases hw with hw|⟨b',hb',hw⟩
   ·cases hw
   ·cases hb';exact hw 0 (by simp)
  refine⟨hw1,bC ?_⟩;rw[←QS hi bits.nk hp]at ho3;have ob:=hu3.get o.blk fun e=>(hBm _ hab).2.1 e.symm
  have z3:=hu3.size;have o3:OwnN (fun x=>h.size≤x) _ h.size d n sp sk ⟨upd s.p i none,upd s.k i (some (some kid))⟩ none:=⟨ob,⟨bits.d32,bits.n32,fun c hc=>by rw[bits.dp c hc,uu (hx y hp)],fun c hc=>by
    rw[bits.nk c hc];simp only[upd];split
    ·rename_i e;rw[e,hp];rfl
    ·rfl⟩,
   ⟨A,B,by rw[uu (hx y hp)];exact hA.upd hu3 fun x hx e=>(hAm _ hx).2.1 (e▸hab),ho3,fun x hx=>⟨(hAm x hx).1,(hAm x hx).2.1,(hAm x hx).2.2.1,by have:=(hAm x hx).2.2.2;omega⟩,fun x hx=>⟨(hBm x hx).1,(hBm x hx).2.1,by have:=(hBm x hx).2.2;omega⟩⟩,o.mb⟩
  refine hk _ _ (o3.node hMW) (hu2.trans hu3 fun x hx=>.inr ?_)
  have:=(hBm _ hab).1;have hx:x=a.block:=hx;omega
 |none=>
  refine al.2 ⟨_,rfl,IY o hi fun h3 d3 n3 sp3 sk3 o3 hu3=>?_⟩
  have bits3:=o3.bits;obtain⟨A3,B3,hA3,hB3,hAm3,hBm3⟩:=o3.ex;have z2:=hu2.size;have z3:=hu3.size;have hu03:Upd No h h3:=hu2.trans hu3 fun x hx=>.inr hx
  refine⟨_,rfl,sk3,eN (i:=3) o3.blk,_,rfl,_,eN (i:=1) o3.blk,?_⟩;have k4:=Upd.hnew No h3 [.pointer (some kid)] bN;have b4:=bW h3 [.pointer (some kid)] bN;have z4:=ja h3 [.pointer (some kid)] bN;have o4:=o3.upd k4 fun _ h=>h.elim
  have fin:HC PG cE [.slice sk3.a sk3.len sk3.cap,.int .i64 (ve i n3),.slice (some (ag h3)) 1 1] [.c .slice] (fun(e32:SliceV) h33=>
       ∃a34:Addr,some (⟨h.size,0,none⟩:Addr)=some a34∧
       (Wr h33 (adr (adr a34 0) 3)∧
        At (hset h33 (adr (adr a34 0) 3) (.slice e32.a e32.len e32.cap)) (fun h35=>
         ∃a36:Addr,some (⟨h.size,0,none⟩:Addr)=some a36∧
         ∃v37:Int,aN h35 (adr (adr a36 0) 1)=some (.int .u32 v37)∧
         HC PG fy [.int .u32 v37,.int .i64 i] [.c (.int .u32)] (fun(e38:Int) h39=>
          ∃a40:Addr,some (⟨h.size,0,none⟩:Addr)=some a40∧
          (Wr h39 (adr (adr a40 0) 1)∧
           At (hset h39 (adr (adr a40 0) 1) (.int .u32 e38)) (fun h41=>
            K (some ⟨h.size,0,none⟩) h41))) h35))) (hnew h3 [.pointer (some kid)] bN):=by
   generalize hnew h3 [.pointer (some kid)] bN=h4 at k4 b4 z4 o4;rw[cH h3];have hB4:=(hB3.upd k4 fun _ _ h=>h).more (M':=fun x=>B3 x∨h4.size≤x)fun x hx=>.inl hx
   have hpn:(⟨upd s.p i none,upd s.k i none⟩:Slots).k i=none:=fH;refine MO hB4 (SX hi bits3.nk) (by have:=Al (g:=(⟨upd s.p i none,upd s.k i none⟩:Slots).k);omega) (x:=some kid) b4 (fun e=>e.elim (fun e=>by have:=(hBm3 _ e).2.2;omega)fun e=>by omega) (fun x hx=>.inr hx)fun s5 h5 ho5 hu5=>?_
   rw[←QT hi bits3.nk hpn (some kid)]at ho5;have hbl:h.size<h3.size:=bD o3.blk;have b5:=hu5.get o4.blk fun e=>e.elim (fun e=>(hBm3 _ e).2.1 rfl)fun e=>by omega
   refine⟨_,rfl,RD (i:=3) b5 (show 3<6 by decide),Ge (i:=3) (c':=fj d3 n3 sp3 s5 false none) b5 rfl fun h6 b6 hu6=>?_⟩
   refine⟨_,rfl,_,eN (i:=1) b6,NU bits3.n32 hi fun w hw hwt=>?_⟩
   refine⟨_,rfl,RD (i:=1) b6 (show 1<6 by decide),Ge (i:=1) (c':=fj d3 w sp3 s5 false none) b6 rfl fun h7 b7 hu7=>?_⟩
   have hu57:=hu6.tr hu7;have z5:=hu5.size;have z7:=hu57.size;have ho5':=ho5.within;have e1:(⟨upd s.p i none,upd (⟨upd s.p i none,upd s.k i none⟩:Slots).k i (some (some kid))⟩:Slots)=⟨upd s.p i none,upd s.k i (some (some kid))⟩:=by rw[NV]
   have o7:OwnN (fun x=>h.size≤x) h7 h.size d3 w sp3 s5 ⟨upd s.p i none,upd s.k i (some (some kid))⟩ none:=by
    rw[←e1];refine⟨b7,⟨bits3.d32,hw,bits3.dp,fun c hc=>?_⟩,⟨A3,fun x=>(B3 x∨h4.size≤x)∧x<h5.size,((hA3.upd k4 fun _ _ h=>h).upd hu5 fun x hx e=>?_).upd hu57 fun x hx e=>(hAm3 x hx).2.2.1 e,ho5'.upd hu57 fun x hx e=>?_,fun x hx=>⟨(hAm3 x hx).1,?_,(hAm3 x hx).2.2.1,by have:=(hAm3 x hx).2.2.2;omega⟩,fun x hx=>⟨?_,?_,by omega⟩⟩,o.mb⟩
    ·rw[hwt,bits3.nk c hc];simp only[upd];split<;>simp[*]
    ·rcases e with e|e
     ·exact(hAm3 x hx).2.1 e
     ·have:=(hAm3 x hx).2.2.2;omega
    ·have e:x=h.size:=e
     rcases hx.1 with h|h
     ·exact(hBm3 x h).2.1 e
     ·omega
    ·rintro⟨h|h,_⟩
     ·exact(hAm3 x hx).2.1 h
     ·have:=(hAm3 x hx).2.2.2;omega
    ·rcases hx.1 with h|h
     ·exact(hBm3 x h).1
     ·omega
    ·rcases hx.1 with h|h
     ·exact(hBm3 x h).2.1
     ·omega
   refine hk _ _ (o7.node hMW) (((hu03.tr k4).trans hu5 fun x hx=>.inr ?_).trans hu57 fun x hx=>.inr ?_)
   ·rcases hx with h|h
    ·exact(hBm3 x h).1
    ·omega
   ·have hx:x=h.size:=hx
    omega
  refine⟨qv bits3.n32 hi ⟨eN (i:=3) o3.blk,bC ⟨eN (i:=3) o4.blk,fin⟩⟩,bC ⟨eN (i:=1) o4.blk,eN (i:=3) o4.blk,qv bits3.n32 hi ⟨eN (i:=3) o4.blk,fin⟩⟩⟩
end Go.Proofs
namespace Go.Proofs
open Go.Lift
theorem Sv{h:af}{b d n:Nat}{sp sk:SliceV}{bu:Bool}{ow:Option Addr}(hb:h[b]?=some(.cells(fj d n sp sk bu ow) bw(0,0))){K:Int→af→Prop}(hk:K(d:Int) h):HC PG qh[.pointer(some ⟨b,0,none⟩)][.c(.int .u32)] K h:=by
 refine Cm _ ?_;unfold uY aj;exact al.2 ⟨_,rfl,_,eN(i:=0) hb,hk⟩
theorem Kz{h:af}{b d n:Nat}{sp sk:SliceV}{bu:Bool}{ow:Option Addr}(hb:h[b]?=some(.cells(fj d n sp sk bu ow) bw(0,0))){K:Int→af→Prop}(hk:K(n:Int) h):HC PG lZ[.pointer(some ⟨b,0,none⟩)][.c(.int .u32)] K h:=by
 refine AM _ ?_;unfold tR aj;exact al.2 ⟨_,rfl,_,eN(i:=1) hb,hk⟩
theorem kw{h:af}{b d n:Nat}{sp sk:SliceV}{bu:Bool}{ow:Option Addr}(hb:h[b]?=some(.cells(fj d n sp sk bu ow) bw(0,0))){K:Bool→af→Prop}(hk:K bu h):HC PG eY[.pointer(some ⟨b,0,none⟩)][.c .bool] K h:=by
 refine xd _ ?_;unfold qR aj;exact ar.2 ⟨_,rfl,_,eN(i:=4) hb,hk⟩
def QP(o:Option Pr):Pr:=o.getD (⟨#[]⟩,⟨#[]⟩)
theorem EO{h:af}{b:Nat}{q p:Pr}(hb:h[b]?=some(.cells #[.string q.1,.string q.2] aq(0,0))){k:af→Prop}
  (hk:∀h',h'[b]?=some(.cells #[.string p.1,.string p.2] aq(0,0))→Upd(·=b) h h'→k h'):dq h(some ⟨b,0,none⟩) 0[.string p.1,.string p.2]∧At(aV h ⟨b,0,none⟩ 0[.string p.1,.string p.2]) k:=by
 have e:=ju[.string p.1,.string p.2] h 0 0[.string q.1,.string q.2] hb(by simp);refine⟨.inr ⟨_,rfl,fun j hj=>by rw[cd];exact ir hb(by simp at hj⊢;omega)⟩,bC ?_⟩
 rw[e];refine hk _ ?_(Upd.set h _ rfl);rw[jo hb];rfl
theorem ET{W:Nat→Prop}{h:af}{b:Nat}{s:Slots}(nd:NodeAt W h b s){i:Nat}(hi:i<32){K:Pr×Bool→af→Prop}(hk:∀h',Upd No h h'→K(QP(s.p i),(s.p i).isSome) h'):
  HC PG j6 [.pointer (some ⟨b,0,none⟩),.int .i64 i] [.agg [.str,.str],.c .bool] K h:=by
 refine Ck _ i ?_;unfold uW aj bP;obtain⟨d,n,sp,sk,ow,hb,bits,hsp,hsk,hcp,hck⟩:=nd.ex;have k1:=Upd.hnew No h [.string (⟨#[]⟩:ByteArray),.string (⟨#[]⟩:ByteArray)] aq;have b1:=bW h [.string (⟨#[]⟩:ByteArray),.string (⟨#[]⟩:ByteArray)] aq;refine bC ?_;simp only[cH h];generalize hnew h [.string (⟨#[]⟩:ByteArray),.string (⟨#[]⟩:ByteArray)] aq=h1 at k1 b1
 have hb1:=k1.get0 hb;have b1':h1[h.size]?=some (.cells #[.string NR.1,.string NR.2] aq (0,0)):=b1;refine Sv hb1 (BU bits.d32 hi ?_);rw[bits.dp i hi];cases hp:s.p i with
 |none=>
  rw[hp]at hk;refine ar.2 (EO (p:=NR) b1' fun h2 b2 hu2=>⟨_,by rw[cd,bj b2];rfl,_,by rw[cd,bj b2];rfl,hk _ (k1.trans hu2 fun x hx=>.inr (fh hx.symm))⟩)
 |some y=>
  rw[hp]at hk;refine al.2 ⟨_,rfl,sp,eN (i:=2) hb1,_,rfl,_,eN (i:=0) hb1,qv bits.d32 hi ⟨eN (i:=2) hb1,?_⟩⟩;have hlt:=HM hi bits.dp hp;have hsp1:=hsp.upd k1 fun _ h=>h.elim
  obtain⟨a,ha,_,hv⟩:=hsp1.at (QV hi bits.dp hp);have hlen:=hsp.len;refine⟨by omega,a,ha,y.1,hv 0 _ rfl,y.2,hv 1 _ rfl,?_⟩;refine EO (p:=y) b1' fun h2 b2 hu2=>⟨_,by rw[cd,bj b2];rfl,_,by rw[cd,bj b2];rfl,hk _ (k1.trans hu2 fun x hx=>.inr (fh hx.symm))⟩
theorem zT{W:Nat→Prop}{h:af}{b:Nat}{s:Slots}(nd:NodeAt W h b s){i:Nat}(hi:i<32){K:Option Addr×Bool→af→Prop}(hk:K((s.k i).getD none,(s.k i).isSome) h):
  HC PG iv [.pointer (some ⟨b,0,none⟩),.int .i64 i] [.c .ptr,.c .bool] K h:=by
 refine DJ _ i ?_;unfold wg aj bP;obtain⟨d,n,sp,sk,ow,hb,bits,hsp,hsk,hcp,hck⟩:=nd.ex;refine Kz hb (BU bits.n32 hi ?_);rw[bits.nk i hi];cases hp:s.k i with
 |none=>rw[hp]at hk;exact ar.2 hk
 |some y=>
  rw[hp]at hk;refine al.2 ⟨_,rfl,sk,eN (i:=3) hb,_,rfl,_,eN (i:=1) hb,qv bits.n32 hi ⟨eN (i:=3) hb,?_⟩⟩;have hlt:=HM hi bits.nk hp;obtain⟨a,ha,_,hv⟩:=hsk.at (QV hi bits.nk hp);have hlen:=hsk.len;exact⟨by omega,a,ha,y,hv 0 _ rfl,hk⟩
theorem wE{W:Nat→Prop}{h:af}{b d n:Nat}{sp sk:SliceV}{bu:Bool}{ow:Option Addr}{l:List Pr}(hb:h[b]?=some(.cells(fj d n sp sk bu ow) bw(0,0)))(hs:Sl ee 2 W h sp l)(hn:l.length≤1000000000){K:SliceV→af→Prop}
  (hk:∀s' h',OwnS ee 2 aq(fun x=>h.size≤x) h' s' l→Upd No h h'→K s' h'):HC PG gh[.pointer(some ⟨b,0,none⟩)][.c .slice] K h:=by
 refine tD _ ?_;unfold pG aj;exact al.2 ⟨_,rfl,sp,eN(i:=2) hb,uH hs(by omega) hk⟩
theorem So{W:Nat→Prop}{h:af}{b d n:Nat}{sp sk:SliceV}{bu:Bool}{ow:Option Addr}{l:List(Option Addr)}(hb:h[b]?=some(.cells(fj d n sp sk bu ow) bw(0,0)))(hs:Sl q9 1 W h sk l)(hn:l.length≤1000000000){K:SliceV→af→Prop}
  (hk:∀s' h',OwnS q9 1 bN(fun x=>h.size≤x) h' s' l→Upd No h h'→K s' h'):HC PG qf[.pointer(some ⟨b,0,none⟩)][.c .slice] K h:=by
 refine uL _ ?_;unfold qk aj;exact al.2 ⟨_,rfl,sk,eN(i:=3) hb,B5 hs(by omega) hk⟩
structure BuckAt(W:Nat→Prop)(h:af)(b:Nat)(l:List Pr):Prop where
 ex:∃sp sk ow,h[b]?=some (.cells (fj 0 0 sp sk true ow) bw (0,0))∧Sl ee 2 W h sp l∧Sl q9 1 W h sk []∧sp.len≤sp.cap∧sk.len≤sk.cap
 nw:¬W b
theorem BuckAt.upd{W M:Nat→Prop}{h h':af}{b:Nat}{l:List Pr}(n:BuckAt W h b l)(k:Upd M h h')(hm:∀b,M b→W b∨h.size≤b):BuckAt W h' b l:=by
 obtain⟨sp,sk,ow,h1,h3,h4,h5,h6⟩:=n.ex;exact⟨⟨sp,sk,ow,k.get h1 (fun hb=>(hm _ hb).elim n.nw fun h=>by have:=bD h1;omega),h3.upd k hm,h4.upd k hm,h5,h6⟩,n.nw⟩
theorem Tl{W:Nat→Prop}{h:af}{b:Nat}{l:List Pr}(bk:BuckAt W h b l)(hr:bU l)(hn:l.length≤1000000000)(k:ByteArray){K:ByteArray×Bool→af→Prop}
  (hk:∀h' v,Upd No h h'→(cp l k=true→(k,v)∈l)→(cp l k=false→v=⟨#[]⟩)→K(v,cp l k) h'):HC PG se [.pointer (some ⟨b,0,none⟩),.string k] [.c .str,.c .bool] K h:=by
 refine Nx _ k ?_;unfold FT aj bP;obtain⟨sp,sk,ow,hb,hsp,hsk,hc1,hc2⟩:=bk.ex;refine wE hb hsp hn fun s1 h1 ho1 hu1=>?_
 have hs1:Sl ee 2 No h1 s1 l:=ho1.sl fun _ _ _ h=>h
 refine IU hs1 hr hn k fun h2 hu2=>?_
 cases ht:cp l k with
 |false=>rw[ht]at hk;exact ar.2 (hk _ _ (hu1.tr hu2) (fun h=>by cases h)fun _=>rfl)
 |true=>
  rw[ht]at hk;obtain⟨hlt,e⟩:=IB hr ht;obtain⟨a,ha,_,hv⟩:=(hs1.upd hu2 fun _ h=>h.elim).at (ai hlt)
  have hlen:=hs1.len;refine al.2 ⟨by simp only;omega,a,ha,_,hv 1 _ rfl,hk _ _ (hu1.tr hu2) (fun _=>?_)fun h=>by cases h⟩
  have:(k,l[oy l k].2)=l[oy l k]:=Prod.ext e.symm rfl;rw[this];exact bF hlt
theorem SV{W:Nat→Prop}{h:af}{b:Nat}{l:List Pr}(bk:BuckAt W h b l)(hr:bU l)(hn:l.length≤1000000000)(k:ByteArray){K:ByteArray×Bool→af→Prop}
 (hk:∀h' v,Upd No h h'→(cp l k=true→(k,v)∈l)→K(v,cp l k) h'):HC PG se [.pointer (some ⟨b,0,none⟩),.string k] [.c .str,.c .bool] K h:=Tl bk hr hn k fun h' v h1 h2 _=>hk h' v h1 h2
end Go.Proofs
namespace Go.Proofs
open Go.Lift
set_option maxRecDepth 4000 in
theorem Og{W:Nat→Prop}{h:af}{b:Nat}{l:List Pr}(nd:BuckAt W h b l)(hn:l.length≤1000000000){K:Option Addr→af→Prop}
  (hk:∀h' sp sk,h'[h.size]?=some(.cells(fj 0 0 sp sk true none) bw(0,0))→OwnS ee 2 aq(fun x=>h.size<x∧x<h'.size) h' sp l→OwnS q9 1 bN(fun x=>h.size<x∧x<h'.size) h' sk[]→Upd No h h'→K(some ⟨h.size,0,none⟩) h'):
  HC PG gE[.pointer(some ⟨b,0,none⟩),.pointer none][.c .ptr] K h:=by
 obtain⟨sp,sk,ow,hb,hsp,hsk,hcp,hck⟩:=nd.ex;refine vX _ none ?_;unfold rj aj;refine Hl(al.2 ?_);have c:∀{h:af}{b:Nat}{c:Array Value}{i:Nat},h[b]?=some(.cells c bw(0,0))→aN h ⟨b,0+i,none⟩=c[i]?:=fun hb=>by rw[aQ];exact bj hb
 refine⟨_,rfl,_,c(i:=0) hb,_,c(i:=1) hb,sp,c(i:=2) hb,sk,c(i:=3) hb,_,c(i:=4) hb,_,c(i:=5) hb,?_⟩;have k1:=Upd.hnew No h[.int .u32 0,.int .u32 0,.slice none 0 0,.slice none 0 0,.bool false,.pointer none] bw;have b1:=bW h[.int .u32 0,.int .u32 0,.slice none 0 0,.slice none 0 0,.bool false,.pointer none] bw;refine bC ?_;simp only[cH h];generalize hnew h[.int .u32 0,.int .u32 0,.slice none 0 0,.slice none 0 0,.bool false,.pointer none] bw=h1 at k1 b1
 have hs1:aV h1 ⟨h.size,0,none⟩ 0[.int .u32((0:Nat):Int),.int .u32((0:Nat):Int),.slice sp.a sp.len sp.cap,.slice sk.a sk.len sk.cap,.bool true,.pointer ow]=_:=ju _ h1 0 0 _ b1(by simp);refine⟨.inr ⟨_,rfl,fun j hj=>by rw[cd];exact ir b1(by simp at hj⊢;omega)⟩,bC ?_⟩
 rw[hs1];have b2:=jo(o:=.cells(fj 0 0 sp sk true ow) bw(0,0)) b1;have k2:Upd No h _:=k1.trans(M':=(·=h.size))(Upd.set h1(.cells(fj 0 0 sp sk true ow) bw(0,0)) rfl)fun x hx=>.inr(fh hx.symm)
 have hz2:h.size<(h1.setIfInBounds h.size(.cells(fj 0 0 sp sk true ow) bw(0,0))).size:=bD b2;have hbb:h.size≠b:=fun e=>by have:=bD hb;omega
 have e2:(Obj.cells(List.take(0+0)[Value.int .u32 0,.int .u32 0,.slice none 0 0,.slice none 0 0,.bool false,.pointer none]++ [Value.int .u32((0:Nat):Int),.int .u32((0:Nat):Int),.slice sp.a sp.len sp.cap,.slice sk.a sk.len sk.cap,.bool true,.pointer ow]++List.drop(0+0+ [Value.int .u32((0:Nat):Int),.int .u32((0:Nat):Int),.slice sp.a sp.len sp.cap,.slice sk.a sk.len sk.cap,.bool true,.pointer ow].length)[Value.int .u32 0,.int .u32 0,.slice none 0 0,.slice none 0 0,.bool false,.pointer none]).toArray bw(0,0))=.cells(fj 0 0 sp sk true ow) bw(0,0):=rfl
 rw[e2];generalize h1.setIfInBounds h.size(.cells(fj 0 0 sp sk true ow) bw(0,0))=h2 at b2 k2 hz2;have hb2:=k2.get0 hb;refine⟨_,rfl,sp,c(i:=2) hb2,_,rfl,sk,c(i:=3) hb2,?_⟩;refine uH(hsp.upd k2 fun _ h=>h.elim)(by omega)fun s3 h3 ho3 hu3=>?_
 refine⟨c(i:=3)(hu3.get0 hb2),?_⟩;refine B5((hsk.upd k2 fun _ h=>h.elim).upd hu3 fun _ h=>h.elim)(by simp)fun s4 h4 ho4 hu4=>?_
 have b4:=hu4.get0(hu3.get0 b2);have ho3':=ho3.within.upd hu4 fun _ _ h=>h
 have ho4':=ho4.within;have z3:=hu3.size;have z4:=hu4.size;have w:∀{h:af}{c:Array Value}{x i:Nat},h[x]?=some(.cells c bw(0,0))→i<c.size→Wr h ⟨x,0+i,none⟩:=fun hb hi=>by rw[aQ];exact ir hb hi
 have st:∀{h:af}{c c':Array Value}{x i:Nat}{v:Value}{k:af→Prop},h[x]?=some(.cells c bw(0,0))→c.setIfInBounds i v=c'→(∀h',h'[x]?=some(.cells c' bw(0,0))→Upd(·=x) h h'→k h')→At(hset h ⟨x,i,none⟩ v) k:=fun hb e hk=>xa hb fun h' hb' hu=>hk h'(e▸hb') hu
 refine⟨w(i:=2) b4(show 2<6 by decide),st(i:=2)(c':=fj 0 0 s3 sk true ow) b4 rfl fun h5 b5 hu5=>?_⟩
 refine⟨w(i:=3) b5(show 3<6 by decide),st(i:=3)(c':=fj 0 0 s3 s4 true ow) b5 rfl fun h6 b6 hu6=>?_⟩
 refine⟨w(i:=5) b6(show 5<6 by decide),st(i:=5)(c':=fj 0 0 s3 s4 true none) b6 rfl fun h7 b7 hu7=>?_⟩
 refine wK(al.2 ?_);have hu47:=hu5.tr(hu6.tr hu7);have z7:=hu47.size;refine hk _ s3 s4 b7((ho3'.upd hu47 fun x hx e=>?_).more fun x hx=>?_)((ho4'.upd hu47 fun x hx e=>?_).more fun x hx=>?_) ?_
 ·have e:x=h.size:=e;omega
 ·omega
 ·have e:x=h.size:=e;omega
 ·omega
 ·exact((k2.tr hu3).tr hu4).trans hu47 fun x hx=>.inr(fh hx.symm)
theorem Ed{W:Nat→Prop}{h:af}{b:Nat}{l:List Pr}(bk:BuckAt W h b l)(hW:∀x,W x→x<h.size)(hr:bU l)(hn:l.length≤1000000000)(p:Pr){K:Option Addr→af→Prop}
  (hk:∀h' b',BuckAt W h' b'(Gh l p)→Upd No h h'→K(some ⟨b',0,none⟩) h'):
  HC PG iu [.pointer (some ⟨b,0,none⟩),.pointer none,.agg #[.string p.1,.string p.2]] [.c .ptr] K h:=by
 refine DH _ none p ?_;unfold vZ aj;have k1:=Upd.hnew No h [.string p.1,.string p.2] aq;have b1:=bW h [.string p.1,.string p.2] aq;refine bC ?_;simp only[cH h];generalize hnew h [.string p.1,.string p.2] aq=h1 at k1 b1;have z1:=bD b1;have bk1:=bk.upd k1 fun _ h=>h.elim
 obtain⟨sp,sk,ow,hb,hsp,hsk,hcp,hck⟩:=bk1.ex;refine kw hb (al.2 ?_);refine Og bk1 hn fun h2 s2 t2 b2 hA hB hu2=>?_
 have b12:=hu2.get0 b1;refine⟨_,rfl,s2,eN (i:=2) b2,p.1,by rw[cd,bj b12];rfl,p.2,by rw[cd,bj b12];rfl,?_⟩
 refine Mx (hA.sl fun _ _ _ h=>h) hA.cap hr hn p fun s3 h3 ho3 hu3=>?_
 have b3:=hu3.get0 b2;refine⟨_,rfl,RD (i:=2) b3 (show 2<6 by decide),Ge (i:=2) (c':=fj 0 0 s3 t2 true none) b3 rfl fun h4 b4 hu4=>?_⟩
 have z2:=bD b2;have ho4:=ho3.upd hu4 fun x hx e=>by have e:x=h1.size:=e;omega
 have hB4:=(hB.upd hu3 fun _ _ h=>h).upd hu4 fun x hx e=>by have e:x=h1.size:=e;omega
 refine hk h4 h1.size ⟨⟨s3,t2,none,b4,ho4.sl fun x hx _ hw=>?_,hB4.sl fun x hx _ hw=>?_,ho3.cap,hB.cap⟩,fun hw=>?_⟩ (((k1.tr hu2).tr hu3).trans hu4 fun x hx=>.inr ?_)
 ·have:=hW x hw;have:=hu2.size;omega
 ·have:=hW x hw;omega
 ·have:=hW _ hw;omega
 ·have hx:x=h1.size:=hx
  omega
theorem HZ{W:Nat→Prop}{h:af}(hW:∀x,W x→x<h.size){K:Option Addr→af→Prop}(hk:∀h' b',BuckAt W h' b'[]→Upd No h h'→K(some ⟨b',0,none⟩) h'):HC PG qy [] [.c .ptr] K h:=by
 refine Gw ?_;unfold ym;exact hk _ _ ⟨⟨⟨none,0,0⟩,⟨none,0,0⟩,none,bW h _ _,Sl.nil fS,Sl.nil qZ,au _,au _⟩,fun hx=>lB _ (hW _ hx)⟩ (Upd.hnew No h _ _)
theorem pi{W:Nat→Prop}{h:af}(hW:∀x,W x→x<h.size){K:Option Addr→af→Prop}(hk:∀h' b',NodeAt W h' b' ⟨fun _=>none,fun _=>none⟩→Upd No h h'→K(some ⟨b',0,none⟩) h'):HC PG mQ [] [.c .ptr] K h:=by
 refine Jq ?_;unfold A0;have e1:fm (fun _=>(none:Option Pr)) 32= []:=by simp[fm]
 have e2:fm (fun _=>(none:Option (Option Addr))) 32= []:=by simp[fm]
 refine hk _ _ ⟨⟨0,0,⟨none,0,0⟩,⟨none,0,0⟩,none,bW h _ _,⟨by decide,by decide,fun c _=>by simp,fun c _=>by simp⟩,?_,?_,au _,au _⟩,fun hx=>lB _ (hW _ hx)⟩ (Upd.hnew No h _ _)
 ·show Sl ee 2 W _ _ (fm (fun _=>none) 32)
  rw[e1];exact Sl.nil fS
 ·show Sl q9 1 W _ _ (fm (fun _=>none) 32)
  rw[e2];exact Sl.nil qZ
end Go.Proofs
