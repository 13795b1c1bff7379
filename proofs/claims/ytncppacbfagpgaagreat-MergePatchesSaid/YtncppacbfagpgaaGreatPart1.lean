/- A part of the proof that the named laws of this program answer true, whatever the input. -/
import Derived.Test.YtncppacbfagpgaaGreatPart0
open BitVec renaming ofInt→ar,ofInt_natCast→nq,getLsbD_ofNat→nr
open Int renaming fdiv→dT,toNat_natCast→aX
open List renaming append_nil→aK,append_assoc→al,append_cancel_left→fc,mem_cons_self→ao,mem_cons→az,length→gv,length_append→ac,getElem_of_mem→bK,length_take→aQ,length_drop→aU,take_append_drop→aZ,pairwise_append→cg,getElem_mem→bN,mem_of_getElem→ox,pairwise_iff_getElem→cn,take_succ_cons→jf,length_cons→ak,drop_succ_cons→gT,replicate→kT,replicate_succ→ou,flatMap_cons→aI,flatten_append→kI,flatten_cons→gO,flatten_nil→rj,getElem?_eq_getElem→ai,take_of_length_le→bm,range→gf,range_add→tW,mem_range→gN,filterMap_append→qI,take_left'→dd,drop_left'→cL,drop_drop→dP
open Nat renaming le_refl→aq,zero_le→bw,le_trans→bc,testBit_and→l6,testBit_two_pow_sub_one→mD,shiftRight_eq_div_pow→ii,lt_of_le_of_lt→jD,min_eq_left→bF,shiftRight_le→qs,mod_eq_of_lt→iz,testBit_lt_two_pow→gL,lt_of_lt_of_le→aE,pow_le_pow_right→kh,zero_add→aP,le_of_eq→eI
open Option renaming some→bR
open UInt8 renaming toNat_inj→o9,ofNat→hH
namespace Go.Proofs
theorem OG{m n:Bn}(hb:Br (sf m.2.1 m.2.2))(h:∀k v,vf m k v→vf n k v):∃t,m.1=n.1++t:=by
 rcases hb with⟨v,hv⟩|⟨j,k,u,v,hj,hk,nj,nk,hne⟩
 ·obtain⟨r,e,_⟩:=h m.1 v ⟨[],(aK _).symm,hv⟩
  exact⟨r,e⟩
 ·obtain⟨r,e,_⟩:=h (m.1++j) u ⟨j,rfl,hj⟩
  obtain⟨s,f,_⟩:=h (m.1++k) v ⟨k,rfl,hk⟩;rcases List.append_eq_append_iff.1 e with⟨a,h1,h2⟩|⟨a,h1,h2⟩
  ·rw[h1,al]at f
   have f:=fc f;cases a with
   |nil=>exact⟨[],by rw[h1];simp⟩
   |cons x a=>
    rw[h2]at hne;rw[f]at hne;exact absurd rfl hne
  ·exact⟨a,h1⟩
theorem Nn:∀{F F':Fo},fS F→fS F'→(∀k v,qG F k v↔qG F' k v)→F=F'
 | .nil,.nil,_,_,_=>rfl
 | .nil,.cons lab w kids rest,_,h,he=>by
  obtain⟨r,v,hr⟩:=mZ h _ (ao ..);exact((he _ v).2 (fK.2 ⟨_,ao ..,r,rfl,hr⟩)).elim
 | .cons lab w kids rest,.nil,h,_,he=>by
  obtain⟨r,v,hr⟩:=mZ h _ (ao ..);exact((he _ v).1 (fK.2 ⟨_,ao ..,r,rfl,hr⟩)).elim
 | .cons lab w kids rest,.cons lab' w' kids' rest',h,h',he=>by
  have low:∀{lab w kids rest} {F:Fo},fS (.cons lab w kids rest)→fS F→(∀k v,qG F k v→qG (.cons lab w kids rest) k v)→∀n∈F.toL,hd lab≤hd n.1:=by
   intro lab w kids rest F h hF hi n hn;obtain⟨r,v,hr⟩:=mZ hF n hn;obtain⟨m,hm,e,_⟩:=qU h (hi _ v (fK.2 ⟨n,hn,r,rfl,hr⟩));rw[pj ((ef.1 hF).2 n hn).1]at e;rcases az.1 hm with rfl|hm
   ·simp only at e;omega
   ·have:=h.2.2.2.1 m hm;omega
  have e1:=low h h' (fun k v=>(he k v).2) _ (ao ..)
  have e2:=low h' h (fun k v=>(he k v).1) _ (ao ..)
  simp only at e1 e2;have ehd:hd lab=hd lab':=by omega
  have nod:∀{lab w kids rest lab' w' kids' rest'},fS (.cons lab w kids rest)→fS (.cons lab' w' kids' rest')→hd lab=hd lab'→(∀k v,qG (.cons lab w kids rest) k v→qG (.cons lab' w' kids' rest') k v)→(∀k v,vf (lab,w,kids) k v→vf (lab',w',kids') k v)∧(∀k v,qG rest k v→qG rest' k v):=by
   intro lab w kids rest lab' w' kids' rest' h h' ehd hi;refine⟨fun k v hk=>?_,fun k v hk=>?_⟩
   ·obtain⟨n,hn,e,hr⟩:=qU h' (hi k v (fK.2 ⟨_,ao ..,hk⟩))
    obtain⟨r,rfl,_⟩:=hk;rw[pj h.1]at e;rw[←wR h' hn (ao ..) (by simp only;omega)];exact hr
   ·obtain⟨m,hm,em,_⟩:=qU h.2.2.2.2 hk
    have:=h.2.2.2.1 m hm;obtain⟨n,hn,e,hr⟩:=qU h' (hi k v (Or.inr hk));rcases az.1 hn with rfl|hn
    ·simp only at e;omega
    ·exact fK.2 ⟨n,hn,hr⟩
  have⟨n1,r1⟩:=nod h h' ehd fun k v=>(he k v).1
  have⟨n2,r2⟩:=nod h' h ehd.symm fun k v=>(he k v).2
  have erest:rest=rest':=Nn h.2.2.2.2 h'.2.2.2.2 fun k v=>⟨r1 k v,r2 k v⟩
  obtain⟨t,ht⟩:=OG (m:=(lab,w,kids)) (n:=(lab',w',kids')) ((Jf h.2.2.1).1 h.2.1) n1;obtain⟨t',ht'⟩:=OG (m:=(lab',w',kids')) (n:=(lab,w,kids)) ((Jf h'.2.2.1).1 h'.2.1) n2;simp only at ht ht';have hlab:lab=lab':=by
   have:t= []:=by
    have h1:=congrArg gv ht;have h2:=congrArg gv ht';rw[ac]at h1 h2;exact List.length_eq_zero_iff.1 (by omega)
   rw[ht,this,aK]
  subst hlab;have inR:∀{w kids w' kids'},(∀k v,vf (lab,w,kids) k v→vf (lab,w',kids') k v)→∀k v,sf w kids k v→sf w' kids' k v:=by
   intro w kids w' kids' hn k v hk;obtain⟨r,e,hr⟩:=hn (lab++k) v ⟨k,rfl,hk⟩;rw[fc e];exact hr
  have i1:=inR n1;have i2:=inR n2;have ew:w=w':=by
   have wv:∀{w kids w' kids'},fS kids'→(∀k v,sf w kids k v→sf w' kids' k v)→∀v,w=some v→w'=some v:=by
    intro w kids w' kids' hc hi v hv;rcases hi [] v (.inl ⟨rfl,hv⟩)with⟨_,h⟩|h
    ·exact h
    ·exact absurd rfl (pi hc h)
   exact Option.ext fun v=>⟨wv h'.2.2.1 i1 v,wv h.2.2.1 i2 v⟩
  have kd:∀{w kids w' kids'},fS kids→(∀k v,sf w kids k v→sf w' kids' k v)→∀k v,qG kids k v→qG kids' k v:=by
   intro w kids w' kids' hc hi k v hk;rcases hi k v (.inr hk)with⟨e,_⟩|h
   ·exact absurd e (pi hc hk)
   ·exact h
  have ekids:kids=kids':=Nn h.2.2.1 h'.2.2.1 fun k v=>⟨kd h.2.2.1 i1 k v,kd h'.2.2.1 i2 k v⟩
  rw[ew,ekids,erest]
def ve(P P':List UInt8→ByteArray→Prop)(k:List UInt8)(v:ByteArray):Prop:=∀k' v',P' k' v'↔(k'=k∧v'=v)∨(k'≠k∧P k' v')
theorem Hj{w:Option ByteArray}{F:Fo}(h:fS F)(v:ByteArray):ve (sf w F) (sf (some v) F) [] v:=by
 intro k' v';unfold sf;constructor
 ·rintro(⟨e,f⟩|hi)
  ·exact .inl ⟨e,(bR.inj f).symm⟩
  ·exact .inr ⟨pi h hi,.inr hi⟩
 ·rintro(⟨e,f⟩|⟨e,⟨f,_⟩|hi⟩)
  ·exact .inl ⟨e,by rw[f]⟩
  ·exact absurd f e
  ·exact .inr hi
theorem Ce{w:Option ByteArray}{F F':Fo}{k:List UInt8}{v:ByteArray}(hk:k≠[])(h:ve (qG F) (qG F') k v):ve (sf w F) (sf w F') k v:=by
 intro k' v';unfold sf;rw[h k' v'];constructor
 ·rintro(⟨e,f⟩|hi|hi)
  ·exact .inr ⟨fun e'=>hk (e'.symm.trans e),.inl ⟨e,f⟩⟩
  ·exact .inl hi
  ·exact .inr ⟨hi.1,.inr hi.2⟩
 ·rintro(hi|⟨e,hi|hi⟩)
  ·exact .inr (.inl hi)
  ·exact .inl hi
  ·exact .inr (.inr ⟨e,hi⟩)
theorem Pp{F:Fo}{k:List UInt8}{v:ByteArray}{i:Nat}(h:fS F)(hk:k≠[])(hi:∀j (hj:j<F.toL.length),j<i→hd F.toL[j].1<hd k)(hi':∀j (hj:j<F.toL.length),i≤j→hd k<hd F.toL[j].1):fS (.ofL (F.toL.take i++(k,some v,.nil)::F.toL.drop i))∧ve (qG F) (qG (.ofL (F.toL.take i++(k,some v,.nil)::F.toL.drop i))) k v:=by
 have hc:=ef.1 h;have t1:∀n∈F.toL.take i,hd n.1<hd k:=fun n hn=>by
  obtain⟨j,hj,e⟩:=bK hn;rw[aQ]at hj;rw[←e,List.getElem_take];exact hi j (by omega) (by omega)
 have t2:∀n∈F.toL.drop i,hd k<hd n.1:=fun n hn=>by
  obtain⟨j,hj,e⟩:=bK hn;rw[aU]at hj;rw[←e,List.getElem_drop];exact hi' _ (by omega) (by omega)
 have mem:∀n,n∈F.toL.take i++(k,some v,.nil)::F.toL.drop i↔n=(k,some v,Fo.nil)∨n∈F.toL:=fun n=>by
  conv=>rhs;rw[←aZ i F.toL]
  simp only[List.mem_append,az];exact⟨fun h=>h.elim (fun h=>.inr (.inl h)) fun h=>h.elim .inl fun h=>.inr (.inr h),fun h=>h.elim (fun h=>.inr (.inl h)) fun h=>h.elim .inl fun h=>.inr (.inr h)⟩
 refine⟨ef.2 ⟨?_,?_⟩,fun k' v'=>?_⟩
 ·rw[Fo.to_of]
  have hp:=hc.1;rw[←aZ i F.toL,cg]at hp;refine cg.2 ⟨hp.1,List.pairwise_cons.2 ⟨t2,hp.2.1⟩,fun a ha b hb=>?_⟩
  rcases az.1 hb with rfl|hb
  ·exact t1 a ha
  ·exact hp.2.2 a ha b hb
 ·rw[Fo.to_of]
  intro n hn;rcases(mem n).1 hn with rfl|hn
  ·exact⟨hk,.inl rfl,trivial⟩
  ·exact hc.2 n hn
 ·rw[fK,fK,Fo.to_of]
  constructor
  ·rintro⟨n,hn,r,e,hr⟩
   rcases(mem n).1 hn with rfl|hn
   ·rcases hr with⟨rfl,f⟩|f
    ·exact .inl ⟨by rw[e];exact aK _,(bR.inj f).symm⟩
    ·exact f.elim
   ·right
    refine⟨fun e'=>?_,n,hn,r,e,hr⟩
    have e2:hd k=hd n.1:=by rw[←e',e,pj (hc.2 n hn).1]
    obtain⟨j,hj,ej⟩:=bK hn;rcases Nat.lt_or_ge j i with h1|h1
    ·have:=hi j hj h1;rw[ej]at this;omega
    ·have:=hi' j hj h1;rw[ej]at this;omega
  ·rintro(⟨rfl,rfl⟩|⟨_,n,hn,h⟩)
   ·exact⟨(k',some v',.nil),(mem _).2 (.inl rfl),[],(aK _).symm,.inl ⟨rfl,rfl⟩⟩
   ·exact⟨n,(mem _).2 (.inr hn),h⟩
theorem mW{α:Type}{l:List α}{i:Nat}(hi:i<l.length){a x:α}(nd:∀j (hj:j<l.length),j≠i→l[j]≠l[i]):x∈l.set i a↔x=a∨(x∈l∧x≠l[i]):=by
 constructor
 ·intro h
  obtain⟨j,hj,e⟩:=bK h;rw[List.length_set]at hj;rw[List.getElem_set]at e;split at e
  ·exact .inl e.symm
  ·rename_i hne
   exact .inr ⟨by rw[←e];exact bN hj,by rw[←e];exact nd j hj fun e=>hne e.symm⟩
 ·rintro(rfl|⟨h,hne⟩)
  ·exact ox (i:=i) (h:=by simpa using hi) (by simp)
  ·obtain⟨j,hj,e⟩:=bK h
   have:i≠j:=by rintro rfl;exact hne e.symm
   exact ox (i:=j) (h:=by simpa using hj) (by rw[List.getElem_set_ne this];exact e)
theorem OU{F:Fo}{i:Nat}{m:Bn}(h:fS F)(hi:i<F.toL.length)(hm:Qc m)(e:hd m.1=hd F.toL[i].1):fS (.ofL (F.toL.set i m)):=by
 have hc:=ef.1 h;rw[ef,Fo.to_of];refine⟨?_,fun n hn=>?_⟩
 ·rw[cn]at hc⊢
  intro a b ha hb hab;rw[List.length_set]at ha hb;rw[List.getElem_set,List.getElem_set];split
  ·rename_i ea;subst ea
   rw[if_neg (by omega),e];exact hc.1 _ _ ha hb hab
  ·split
   ·rename_i eb;subst eb
    rw[e];exact hc.1 _ _ ha hb hab
   ·exact hc.1 _ _ ha hb hab
 ·rcases List.mem_or_eq_of_mem_set hn with hn|rfl
  ·exact hc.2 n hn
  ·exact hm
theorem wy{F:Fo}(h:fS F){i:Nat}(hi:i<F.toL.length)(j:Nat)(hj:j<F.toL.length)(hne:j≠i):F.toL[j]≠F.toL[i]:=by
 have hc:=(ef.1 h).1;rw[cn]at hc;intro e;rcases Nat.lt_or_gt_of_ne hne with hl|hl
 ·have:=hc j i hj hi hl;rw[e]at this;omega
 ·have:=hc i j hi hj hl;rw[e]at this;omega
theorem Ko{F:Fo}{i:Nat}{m:Bn}{k:List UInt8}{v:ByteArray}(h:fS F)(hi:i<F.toL.length)(ek:hd F.toL[i].1=hd k)(hp:ve (vf F.toL[i]) (vf m) k v):ve (qG F) (qG (.ofL (F.toL.set i m))) k v:=by
 intro k' v';have hc:=ef.1 h;rw[fK,fK,Fo.to_of];constructor
 ·rintro⟨n,hn,hr⟩
  rcases(mW hi (wy h hi)).1 hn with rfl|⟨hn,hne⟩
  ·rcases(hp k' v').1 hr with h1|⟨h1,h2⟩
   ·exact .inl h1
   ·exact .inr ⟨h1,_,bN hi,h2⟩
  ·refine .inr ⟨fun e=>hne ?_,n,hn,hr⟩
   obtain⟨r,e',_⟩:=hr;refine wR h hn (bN hi) ?_;rw[ek,←e,e',pj (hc.2 n hn).1]
 ·rintro(h1|⟨h1,n,hn,hr⟩)
  ·exact⟨m,(mW hi (wy h hi)).2 (.inl rfl),(hp k' v').2 (.inl h1)⟩
  ·by_cases e:n=F.toL[i]
   ·exact⟨m,(mW hi (wy h hi)).2 (.inl rfl),(hp k' v').2 (.inr ⟨h1,by rw[←e];exact hr⟩)⟩
   ·exact⟨n,(mW hi (wy h hi)).2 (.inr ⟨hn,e⟩),hr⟩
theorem Po{lab r:List UInt8}{w w':Option ByteArray}{F F':Fo}{v:ByteArray}(h:ve (sf w F) (sf w' F') r v):ve (vf (lab,w,F)) (vf (lab,w',F')) (lab++r) v:=by
 intro k' v';constructor
 ·rintro⟨s,e,hs⟩
  rcases(h s v').1 hs with⟨rfl,rfl⟩|⟨h1,h2⟩
  ·exact .inl ⟨e,rfl⟩
  ·exact .inr ⟨fun e'=>h1 (fc (e.symm.trans e')),s,e,h2⟩
 ·rintro(⟨rfl,rfl⟩|⟨h1,s,e,hs⟩)
  ·exact⟨r,rfl,(h r v').2 (.inl ⟨rfl,rfl⟩)⟩
  ·exact⟨s,e,(h s v').2 (.inr ⟨fun e'=>h1 (by rw[e,e']),hs⟩)⟩
def cm:List UInt8→List UInt8→Nat
 |a::x,b::y=>if a=b then cm x y+1 else 0
 |_,_=>0
theorem TV:∀(x y:List UInt8),cm x y≤x.length∧cm x y≤y.length
 | [],_=>by simp[cm]
 |_::_,[]=>by simp[cm]
 |a::x,b::y=>by unfold cm;have:=TV x y;split<;>simp<;>omega
theorem OQ:∀(x y:List UInt8),x.take (cm x y)=y.take (cm x y)
 | [],_=>by simp[cm]
 |_::_,[]=>by simp[cm]
 |a::x,b::y=>by
  unfold cm;split
  ·rename_i e;rw[jf,jf,OQ x y,e]
  ·simp
theorem OT:∀(x y:List UInt8),cm x y<x.length→cm x y<y.length→hd (x.drop (cm x y))≠hd (y.drop (cm x y))
 | [],_=>by simp[cm]
 |_::_,[]=>by simp[cm]
 |a::x,b::y=>by
  unfold cm;split
  ·rename_i e
   intro h1 h2;rw[ak]at h1 h2;rw[gT,gT];exact OT x y (by omega) (by omega)
  ·rename_i e
   intro _ _ h;exact e (o9.1 h)
theorem UG{x y:List UInt8}(hx:x≠[])(hy:y≠[])(h:hd x=hd y):0<cm x y:=by
 match x,y,hx,hy with
 |a::x,b::y,_,_=>
  unfold cm;rw[if_pos (show a=b from o9.1 h)]
  omega
theorem HG{lab:List UInt8}{w:Option ByteArray}{F:Fo}(c:Nat):∀k v,vf (lab.take c,none,.cons (lab.drop c) w F .nil) k v↔vf (lab,w,F) k v:=by
 intro k v;constructor
 ·rintro⟨r,e,⟨_,h⟩|(⟨s,rfl,h⟩|h)⟩
  ·cases h
  ·exact⟨s,by rw[e];simp only;rw[←al,aZ],h⟩
  ·exact h.elim
 ·rintro⟨s,e,h⟩
  exact⟨lab.drop c++s,by rw[e];simp only;rw[←al,aZ],.inr (.inl ⟨s,rfl,h⟩)⟩
theorem RR{lab r:List UInt8}{w w':Option ByteArray}{F F':Fo}{v:ByteArray}(hl:lab≠[])(hb:w.isSome∨2≤F.toL.length)(hF:fS F)(hne:r≠[]→hd r≠hd lab)(h:ve (sf none (.cons lab w F .nil)) (sf w' F') r v):Br (sf w' F'):=by
 by_cases e:r= []
 ·subst e
  exact .inl ⟨v,(h [] v).2 (.inl ⟨rfl,rfl⟩)⟩
 ·have hc:fS (.cons lab w F .nil):=⟨hl,hb,hF,fun n hn=>by simp[Fo.toL]at hn,trivial⟩
  obtain⟨s,u,hs⟩:=mZ hc _ (ao ..);simp only at hs;have e2:hd (lab++s)=hd lab:=pj hl;refine .inr ⟨r,lab++s,v,u,(h r v).2 (.inl ⟨rfl,rfl⟩),(h _ u).2 (.inr ⟨fun e'=>hne e (by rw[←e',e2]),.inr (.inl ⟨s,rfl,hs⟩)⟩),e,fun e'=>hl (List.append_eq_nil_iff.1 e').1,by rw[e2];exact hne e⟩
theorem Tw{P P':List UInt8→ByteArray→Prop}{k:List UInt8}{v:ByteArray}(hb:Br P)(h:ve P P' k v):Br P':=by
 have keep:∀j u,P j u→∃u',P' j u':=fun j u hj=>by
  by_cases e:j=k
  ·exact⟨v,(h j v).2 (.inl ⟨e,rfl⟩)⟩
  ·exact⟨u,(h j u).2 (.inr ⟨e,hj⟩)⟩
 rcases hb with⟨u,hu⟩|⟨j,k',u,u',hj,hk,r⟩
 ·obtain⟨u',h'⟩:=keep [] u hu
  exact .inl ⟨u',h'⟩
 ·obtain⟨a,ha⟩:=keep j u hj
  obtain⟨b,hb⟩:=keep k' u' hk;exact .inr ⟨j,k',a,b,ha,hb,r⟩
end Go.Proofs
namespace Go.Proofs
open Go.Lift
theorem OwnS.zero{α:Type}{f:α→List Value}{sz:Nat}{t:TypeId}{M:Nat→Prop}{h:ad}{s:SliceV}{xs:List α}(hs:OwnS f sz t M h s xs):OwnS f sz t M h ⟨aW s.a 0 s.cap sz,0-0,s.cap-0⟩ []:=by
 have hf:∀x,(f x).length=sz∧0<sz:=hs.ne;have hlen:=hs.len;have hcap:=hs.cap;refine⟨rfl,hf,by simp only;omega,?_⟩
 rcases hs.blk with h0|⟨b,rest,ha,hb,hc,hr⟩
 ·exact .inl (by simp only;omega)
 ·refine .inr ⟨b,xs.flatMap f++rest,by rw[ha,sub_zero],hb,hc,?_⟩
  rw[ac,lD hf,hr,←Nat.add_mul];simp only;congr 1;omega
def LQ:Pr:=(⟨#[]⟩,⟨#[]⟩)
theorem NX(n:Nat):dQ n [.string (⟨#[]⟩:ByteArray),.string (⟨#[]⟩:ByteArray)]=(kT n LQ).flatMap eu:=by
 unfold dQ;induction n with
 |zero=>rfl
 |succ n ih=>rw[ou,ou,aI,←ih];rfl
theorem Tk{n:Nat}(hn:n*32≤140737488355328){h:ad}{K:SliceV→ad→Prop}(hk:∀s' h',OwnS eu 2 af (fun b=>h.size≤b) h' s' []→Upd No h h'→K s' h'):
  HC PG fX [.slice none 0 0,.int .i64 n] [.c .slice] K h:=by
 refine oL ⟨none,0,0⟩ n ?_;unfold jp nZ;have e:IntKind.wrap .i64 ((n:Int)-IntKind.wrap .i64 (((0:Nat):Int)-((0:Nat):Int)))=(n:Int):=by rw[d8 (x:=((0:Nat):Int)-((0:Nat):Int)) (by omega),d8 (by omega)];omega
 refine Join.plain (aA (fun h=>by omega) fun _=>?_)
 simp only[Bd];rw[e];refine aA (fun hp=>?_) fun hz=>hk _ _ (OwnS.nil ge) (Upd.refl _ _)
 refine⟨by omega,⟨by omega,by omega,by omega,by omega⟩,?_⟩
 refine AppP.own (f:=eu) (M:=fun b=>h.size≤b) (xs:= []) (ys:=kT n LQ) (OwnS.nil ge) (by simp) (NX _) (by rw[NX];exact ww _) rfl (by omega) (by simpa using hn) (aq _) fun s' h' ho hu=>?_
 exact⟨by omega,hk _ _ (OwnS.zero ho) (hu.mono fun b hb=>.inr hb)⟩
abbrev VR(s:SliceV):List Value:= [.slice s.a s.len s.cap]
def ParS(h:ad):List SliceV→List (List Pr)→Prop
 | [],[]=>True
 |v::vs,l::ls=>Sl eu 2 No h v l∧ParS h vs ls
 |_,_=>False
theorem ParS.upd{h h':ad}(k:Upd No h h'):∀{vs:List SliceV} {ls:List (List Pr)},ParS h vs ls→ParS h' vs ls
 | [],[],_=>trivial
 |_::_,_::_,q=>⟨q.1.upd k fun _ h=>h.elim,ParS.upd k q.2⟩
 | [],_::_,q=>q.elim
 |_::_,[],q=>q.elim
theorem ParS.len{h:ad}:∀{vs:List SliceV} {ls:List (List Pr)},ParS h vs ls→vs.length=ls.length
 | [],[],_=>rfl
 |_::_,_::_,q=>by rw[ak,ak,ParS.len q.2]
 | [],_::_,q=>q.elim
 |_::_,[],q=>q.elim
theorem ParS.at{h:ad}:∀{vs:List SliceV} {ls:List (List Pr)},ParS h vs ls→∀{i:Nat} (h1:i<vs.length) (h2:i<ls.length),Sl eu 2 No h vs[i] ls[i]
 |_::_,_::_,q,0,_,_=>q.1
 |_::_,_::_,q,i+1,h1,h2=>ParS.at q.2 (by simpa using h1) (by simpa using h2)
theorem HO(ls:List (List Pr)){i:Nat}(hi:i<ls.length):(ls.take (i+1)).flatten=(ls.take i).flatten++ls[i]:=by
 rw[List.take_succ_eq_append_getElem hi,kI,gO,rj,aK]
theorem OJ(ls:List (List Pr))(i:Nat):(ls.take i).flatten.length≤ls.flatten.length:=by
 have:ls.flatten=(ls.take i).flatten++(ls.drop i).flatten:=by rw[←kI,aZ]
 rw[this,ac];omega
theorem HS{h:ad}{s:SliceV}{vs:List SliceV}{ls:List (List Pr)}(hs:Sl VR 1 No h s vs)(hp:ParS h vs ls)(hn:ls.flatten.length*32≤140737488355328)(hv:vs.length≤1000)
  {K:SliceV→ad→Prop}(hk:∀s' h',OwnS eu 2 af (fun b=>h.size≤b) h' s' ls.flatten→Upd No h h'→K s' h'):HC PG dS [.slice s.a s.len s.cap] [.c .slice] K h:=by
 refine nN s ?_;unfold iX ay cj nZ;have hlen:=hs.len;have hpl:=hp.len;refine LoopP.ghost (fun(i:Nat) (t:Int×Int) h'=>t.2=(i:Int)∧i≤vs.length∧t.1=((ls.take i).flatten.length:Int)∧h'=h) (fun i=>vs.length-i) 0 ⟨rfl,bw _,by simp,rfl⟩ ?_
 rintro I i ⟨tz,ti⟩ h' ⟨e1,hi,e2,rfl⟩ hI;simp only at e1 e2;subst e1 e2;refine aA (fun hlt=>?_) fun hge=>?_
 ·have hlt:i<vs.length:=by have:(i:Int)<(s.len:Int):=hlt;omega
  obtain⟨a,ha,_,hv'⟩:=hs.at (ai hlt);have hvl:=(hp.at hlt (hpl▸hlt)).len;have hft:=congrArg gv (HO ls (hpl▸hlt));rw[ac]at hft;have hfl:=OJ ls (i+1);refine Join.plain ⟨by simp only;omega,a,ha,_,hv' 0 _ rfl,?_⟩;simp only;have ew:IntKind.wrap .i64 (((ls.take i).flatten.length:Int)+((vs[i]).len:Int))=((ls.take (i+1)).flatten.length:Int):=by rw[d8 (by omega)];omega
  rw[ew];refine aA (fun h=>by omega) fun _=>?_
  rw[gR hlt (by omega)];exact hI (i+1) _ _ ⟨rfl,hlt,rfl,rfl⟩ (by omega)
 ·have hil:i=vs.length:=by have:¬(i:Int)<(s.len:Int):=hge;omega
  rw[bm (by omega)];refine Tk hn fun s0 h0 ho0 hu0=>?_
  refine LoopP.ghost (fun(i:Nat) (t:SliceV×Int) h1=>t.2=(i:Int)∧i≤vs.length∧OwnS eu 2 af (fun b=>h'.size≤b) h1 t.1 (ls.take i).flatten∧Upd No h' h1) (fun i=>vs.length-i) 0 ⟨rfl,bw _,by simpa using ho0,hu0⟩ ?_
  rintro I2 j ⟨sj,tj⟩ h1 ⟨e1,hj,ho,hu⟩ hI2;simp only at e1 ho;subst e1;refine aA (fun hlt=>?_) fun hge2=>?_
  ·have hlt:j<vs.length:=by have:(j:Int)<(s.len:Int):=hlt;omega
   obtain⟨a,ha,_,hv'⟩:=(hs.upd hu fun _ h=>h.elim).at (ai hlt)
   have hvj:=((hp.upd hu).at hlt (hpl▸hlt));have hft:=HO ls (hpl▸hlt);have hft2:=congrArg gv hft;rw[ac]at hft2;have hfl:=OJ ls (j+1);refine Join.plain ⟨by simp only;omega,a,ha,_,hv' 0 _ rfl,_,hvj.srow,?_⟩;refine AppP.own (ys:=ls[j]) ho hvj.len rfl (ww _) rfl (by omega) (by omega) hu.size fun s2 h2 ho2 hu2=>?_
   simp only;rw[gR hlt (by omega)];exact hI2 (j+1) _ _ ⟨rfl,hlt,hft▸ho2,hu.trans hu2 fun b hb=>.inr hb⟩ (by omega)
  ·have hjl:j=vs.length:=by have:¬(j:Int)<(s.len:Int):=hge2;omega
   rw[bm (by omega)]at ho;exact hk _ _ ho hu
def Gx(l:List Pr)(p:Pr):List Pr:=l.take (pg l p.1)++p::l.drop (if cx l p.1 then pg l p.1+1 else pg l p.1)
def PN(l:List Pr)(k:ByteArray):List Pr:=if cx l k then l.take (pg l k)++l.drop (pg l k+1)else l
theorem IE{l:List Pr}(hr:bE l){k:ByteArray}(ht:cx l k=true):∃h:pg l k<l.length,l[pg l k].1=k:=by
 unfold cx at ht;obtain⟨p,hp,e⟩:=List.any_eq_true.1 ht;have e:=of_decide_eq_true e;obtain⟨q,hq,rfl⟩:=List.mem_iff_getElem.1 hp;have:pg l k=q:=Q7 (by omega) (fun j hj hjq=>by rw[←e];exact cn.1 hr j q hj hq hjq) fun h=>by rw[←e];exact bW _
 subst this;exact⟨hq,e⟩
theorem Im{h:ad}{s:SliceV}{l:List Pr}(hs:Sl eu 2 No h s l){i j m:Nat}(h1:i≤j)(h2:j≤l.length)(h3:j≤m)(c:Nat):Sl eu 2 No h ⟨aW s.a i m 2,j-i,c⟩ ((l.drop i).take (j-i)):=Sl.sub hs h1 h2 h3
theorem MH{h:ad}{s:SliceV}{l:List Pr}(hs:Sl eu 2 No h s l)(hc:s.len≤s.cap)(hr:bE l)(hn:l.length≤1000000000)(p:Pr)
  {K:SliceV→ad→Prop}(hk:∀s' h',OwnS eu 2 af (fun b=>h.size≤b) h' s' (Gx l p)→Upd No h h'→K s' h'):HC PG zQ [.slice s.a s.len s.cap,.agg #[.string p.1,.string p.2]] [.c .slice] K h:=by
 refine NJ s p ?_;unfold Ga au jH vp qJ ja;have hlen:=hs.len;have k1:=Upd.hnew No h [.string p.1,.string p.2] af;have b1:=bZ h [.string p.1,.string p.2] af;refine bq ?_;simp only[cJ h];generalize hnew h [.string p.1,.string p.2] af=h1 at k1 b1;refine⟨p.1,by rw[ci,bh b1];rfl,IW (hs.upd k1 fun _ h=>h.elim) hr hn p.1 fun h2 hu2=>?_⟩
 have hp:=Q8 l p.1;have hu02:=k1.tr hu2;refine⟨by simp only;omega,?_⟩;let q:=if cx l p.1 then pg l p.1+1 else pg l p.1
 have hq:q≤l.length:=by
  show(if cx l p.1 then pg l p.1+1 else pg l p.1)≤l.length
  split
  ·rename_i ht;obtain⟨h,_⟩:=IE hr ht;omega
  ·exact hp
 refine Join.intro (fun t h'=>h'=h2∧t=⟨aW s.a q s.cap 2,s.len-q,s.cap-q⟩) (fun R hR=>?_) ?_
 ·refine CondP.intro (fun e=>?_) fun e=>hR _ _ ⟨rfl,?_⟩
  ·have e:cx l p.1=true:=e
   obtain⟨hlt,_⟩:=IE hr e;have ew:IntKind.wrap .i64 ((pg l p.1:Int)+1)=((pg l p.1+1:Nat):Int):=by rw[d8 (by omega)];omega
   simp only;rw[ew];refine⟨by omega,hR _ _ ⟨rfl,?_⟩⟩;have:q=pg l p.1+1:=by show(if cx l p.1 then _ else _)=_;rw[if_pos e]
   rw[this];rfl
  ·have e:cx l p.1=false:=e
   have:q=pg l p.1:=by show(if cx l p.1 then _ else _)=_;rw[if_neg (by rw[e];decide)]
   rw[this];rfl
 ·rintro t h' ⟨rfl,rfl⟩
  have b2:=hu2.get0 b1;refine⟨by simp only;omega,p.1,by rw[ci,bh b2];rfl,p.2,by rw[ci,bh b2];rfl,?_⟩
  have k3:=Upd.hnew No h' [.string p.1,.string p.2] af;have b3:=bZ h' [.string p.1,.string p.2] af;refine bq ?_;simp only[cJ h'];generalize hnew h' [.string p.1,.string p.2] af=h3 at k3 b3;refine bq ?_;have hs2:=(hs.upd hu02 fun _ h=>h.elim).upd k3 fun _ h=>h.elim
  have k4:=Upd.hnew No h3 [.slice (aW s.a 0 s.cap 2) ((pg l p.1:Int).toNat-0) (s.cap-0),.slice (some ⟨h'.size,0,none⟩) 1 1,.slice (aW s.a q s.cap 2) (s.len-q) (s.cap-q)] cB;have b4:=bZ h3 [.slice (aW s.a 0 s.cap 2) ((pg l p.1:Int).toNat-0) (s.cap-0),.slice (some ⟨h'.size,0,none⟩) 1 1,.slice (aW s.a q s.cap 2) (s.len-q) (s.cap-q)] cB;have hA:=Im hs2 (i:=0) (j:=pg l p.1) (m:=s.cap) (bw _) hp (by omega) (s.cap-0)
  have hB:Sl eu 2 No h3 ⟨some ⟨h'.size,0,none⟩,1,1⟩ [p]:=⟨rfl,ge,fun _=>⟨_,rfl,fun h=>h.elim,oV b3 fun i v hv=>by simpa using hv⟩⟩
  have hC:=Im hs2 (i:=q) (j:=l.length) (m:=s.cap) hq (aq _) (by omega) (s.cap-q);rw[←hlen]at hC;rw[List.drop_zero]at hA;rw[bm (by rw[aU];omega)]at hC;have e0:Gx l p= [l.take (pg l p.1-0),[p],l.drop q].flatten:=by simp[Gx,q]
  refine HS (s:=⟨some (ag h3),3,3⟩) (vs:= [⟨aW s.a 0 s.cap 2,(pg l p.1:Int).toNat-0,s.cap-0⟩,⟨some ⟨h'.size,0,none⟩,1,1⟩,⟨aW s.a q s.cap 2,s.len-q,s.cap-q⟩]) (ls:= [l.take (pg l p.1-0),[p],l.drop q])
   ⟨rfl,fun x=>⟨rfl,Nat.one_pos⟩,fun _=>⟨_,rfl,fun h=>h.elim,oV b4 fun i v hv=>by simpa[VR]using hv⟩⟩ ⟨hA.upd k4 fun _ h=>h.elim,hB.upd k4 fun _ h=>h.elim,hC.upd k4 fun _ h=>h.elim,trivial⟩ ?_ (by simp) fun s5 h5 ho5 hu5=>?_
  ·simp only[gO,rj,ac,aQ,aU,List.length_singleton,List.length_nil];omega
  ·rw[←e0]at ho5
   have hu:=((hu02.tr k3).tr k4);exact hk _ _ (ho5.more fun b hb=>bc hu.size hb) (hu.tr hu5)
end Go.Proofs
namespace Go.Proofs
open Go.Lift
def wd(n d:Nat):Nat:=(gf n).countP (d.testBit ·)
theorem Er(m n d:Nat):wd (m+n) d=wd m d+wd n (d>>>m):=by
 unfold wd;rw[tW,List.countP_append,List.countP_map];congr 1
 refine List.countP_congr fun i _=>?_
 simp[Nat.testBit_shiftRight]
theorem OO(d:Nat)(i:Nat):∀n,i≤n→wd n (d&&&(2^i-1))=wd i d:=by
 intro n hn;obtain⟨m,rfl⟩:=Nat.exists_eq_add_of_le hn;rw[Er];have e1:wd i (d&&&(2^i-1))=wd i d:=by
  unfold wd;refine List.countP_congr fun j hj=>?_
  have:=gN.1 hj;simp[l6,mD,this]
 have e2:wd m ((d&&&(2^i-1))>>>i)=0:=by
  unfold wd;rw[List.countP_eq_zero];intro j _;simp[Nat.testBit_shiftRight,l6,mD];intro h;omega
 omega
theorem UF(d:Nat):wd 8 (d&&&255)=wd 8 d:=OO d 8 8 (aq _)
theorem zV(n d:Nat):wd n d≤n:=by
 have:=List.countP_le_length (p:=(d.testBit ·)) (l:=gf n)
 simpa[wd]using this
theorem m9(d n:Nat):dT (d:Int) (2^n)=((d>>>n:Nat):Int):=by
 rw[Int.fdiv_eq_ediv_of_nonneg _ (by exact Int.le_of_lt (Int.pow_pos (by decide))),ii];simp
theorem Sb(a b:Nat):(ar (IntKind.bits .u32) (a:Int)&&&ar (IntKind.bits .u32) (b:Int)).toNat=(a%4294967296)&&&(b%4294967296):=by
 simp[IntKind.bits,BitVec.toNat_and,BitVec.toNat_ofInt];rfl
theorem Ao{n:Nat}(h:n<4294967296):IntKind.wrap .u32 (n:Int)=(n:Int):=Go.IntWalk.u32_in _ (by omega)
theorem E4{i:Nat}(hi:i<32){h:ad}{K:Bool→ad→Prop}(hk:K true h):HC PG oF [.int .i64 i] [.c .bool] K h:=by
 refine GP i ?_;unfold zg;refine aA (fun _=>?_) fun h=>absurd (Int.natCast_nonneg i) h
 rw[decide_eq_true (by omega)];exact hk
theorem Jk{a b:Nat}(h:b<4294967296):a&&&b<4294967296:=jD Nat.and_le_right h
theorem Cl{d i:Nat}(hd:d<4294967296)(hi:i<32){h:ad}{K:Bool→ad→Prop}(hk:K (d.testBit i) h):HC PG gq [.int .u32 d,.int .i64 i] [.c .bool] K h:=by
 refine CP d i ?_;unfold vX;refine E4 hi (av.2 ⟨by omega,?_⟩);have e:min (i:Int).toNat (IntKind.bits .u32)=i:=by rw[aX];exact bF (by show i≤32;omega)
 rw[e,m9];have e2:=Sb (d>>>i) 1;have hlt:d>>>i<4294967296:=jD (qs d i) hd;rw[iz hlt,show(1:Nat)%4294967296=1 from rfl]at e2
 simp only[Bd];rw[show((1:Nat):Int)=(1:Int)from rfl]at e2
 rw[e2,Ao (Jk (by omega))];have e3:(((d>>>i&&&1:Nat):Int)==(1:Int))=d.testBit i:=by
  rw[Bool.eq_iff_iff,beq_iff_eq,Nat.testBit,Nat.and_comm];simp only[bne_iff_ne,ne_eq,Nat.one_and_eq_mod_two];have:(d>>>i)%2<2:=Nat.mod_lt _ (by omega);omega
 rw[e3];exact hk
theorem P0{d i:Nat}(hd:d<4294967296)(hi:i<32):∃w:Nat,IntKind.wrap .u32 (ar (IntKind.bits .u32) (d:Int)|||ar (IntKind.bits .u32) (IntKind.wrap .u32 (1*2^(min (i:Int).toNat (IntKind.bits .u32))))).toNat=(w:Int)∧w<4294967296∧∀j,w.testBit j=(d.testBit j||decide (j=i)):=by
 have e:min (i:Int).toNat (IntKind.bits .u32)=i:=by rw[aX];exact bF (by show i≤32;omega)
 have hp:2^i<4294967296:=Nat.pow_lt_pow_right (by omega) (show i<32 from hi)
 have e2:(1*2^i:Int)=((2^i:Nat):Int):=by simp
 rw[e,e2,Ao hp];refine⟨_,Ao (BitVec.isLt _),BitVec.isLt _,fun j=>?_⟩
 rw[BitVec.testBit_toNat,BitVec.getLsbD_or,nq,nq,nr,nr,Nat.testBit_two_pow];by_cases hj:j<32
 ·have:decide (j<IntKind.bits .u32)=true:=decide_eq_true hj
  rw[this];simp[eq_comm]
 ·have h1:decide (j<IntKind.bits .u32)=false:=decide_eq_false hj
  have h2:d.testBit j=false:=gL (aE hd (kh (n:=2) (by omega) (show 32≤j by omega)))
  rw[h1,h2];simp;omega
theorem N1{d i:Nat}(hd:d<4294967296)(hi:i<32){h:ad}{K:Int→ad→Prop}(hk:∀w:Nat,w<4294967296→(∀j,w.testBit j=(d.testBit j||decide (j=i)))→K (w:Int) h):HC PG fP [.int .u32 d,.int .i64 i] [.c (.int .u32)] K h:=by
 refine Bv d i ?_;unfold uP;refine E4 hi (aj.2 ⟨by omega,?_⟩);obtain⟨w,e,h1,h2⟩:=P0 hd hi;simp only[Bd];rw[e];exact hk w h1 h2
theorem Jg{d i:Nat}(hd:d<4294967296)(hi:i<32):∃w:Nat,IntKind.wrap .u32 (ar (IntKind.bits .u32) (d:Int)&&& ~~~ar (IntKind.bits .u32) (IntKind.wrap .u32 (1*2^(min (i:Int).toNat (IntKind.bits .u32))))).toNat=(w:Int)∧w<4294967296∧∀j,w.testBit j=(d.testBit j&&decide (j≠i)):=by
 have e:min (i:Int).toNat (IntKind.bits .u32)=i:=by rw[aX];exact bF (by show i≤32;omega)
 have hp:2^i<4294967296:=Nat.pow_lt_pow_right (by omega) (show i<32 from hi)
 have e2:(1*2^i:Int)=((2^i:Nat):Int):=by simp
 rw[e,e2,Ao hp];refine⟨_,Ao (BitVec.isLt _),BitVec.isLt _,fun j=>?_⟩
 rw[BitVec.testBit_toNat,BitVec.getLsbD_and,BitVec.getLsbD_not,nq,nq,nr,nr,Nat.testBit_two_pow];by_cases hj:j<32
 ·have:decide (j<IntKind.bits .u32)=true:=decide_eq_true hj
  rw[this];simp[eq_comm]
 ·have h1:decide (j<IntKind.bits .u32)=false:=decide_eq_false hj
  have h2:d.testBit j=false:=gL (aE hd (kh (n:=2) (by omega) (show 32≤j by omega)))
  rw[h1,h2];simp
theorem Ey{d i:Nat}(hd:d<4294967296)(hi:i<32){h:ad}{K:Int→ad→Prop}(hk:∀w:Nat,w<4294967296→(∀j,w.testBit j=(d.testBit j&&decide (j≠i)))→K (w:Int) h):HC PG ke [.int .u32 d,.int .i64 i] [.c (.int .u32)] K h:=by
 refine yd d i ?_;unfold rU;refine E4 hi (aj.2 ⟨by omega,?_⟩);obtain⟨w,e,h1,h2⟩:=Jg hd hi;simp only[Bd];rw[e];exact hk w h1 h2
abbrev U4:ByteArray:=⟨#[0,1,1,2,1,2,2,3,1,2,2,3,2,3,3,4,1,2,2,3,2,3,3,4,2,3,3,4,3,4,4,5,1,2,2,3,2,3,3,4,2,3,3,4,3,4,4,5,2,3,3,4,3,4,4,5,3,4,4,5,4,5,5,6,1,2,2,3,2,3,3,4,2,3,3,4,3,4,4,5,2,3,3,4,3,4,4,5,3,4,4,5,4,5,5,6,2,3,3,4,3,4,4,5,3,4,4,5,4,5,5,6,3,4,4,5,4,5,5,6,4,5,5,6,5,6,6,7,1,2,2,3,2,3,3,4,2,3,3,4,3,4,4,5,2,3,3,4,3,4,4,5,3,4,4,5,4,5,5,6,2,3,3,4,3,4,4,5,3,4,4,5,4,5,5,6,3,4,4,5,4,5,5,6,4,5,5,6,5,6,6,7,2,3,3,4,3,4,4,5,3,4,4,5,4,5,5,6,3,4,4,5,4,5,5,6,4,5,5,6,5,6,6,7,3,4,4,5,4,5,5,6,4,5,5,6,5,6,6,7,4,5,5,6,5,6,6,7,5,6,6,7,6,7,7,8]⟩
theorem SE:(gf 256).all (fun b=>decide (U4[b]? =some (hH (wd 8 b))))=true:=by decide+kernel
theorem Ig{b:Nat}(h:b<256):U4[b]? =some (hH (wd 8 b)):=of_decide_eq_true (List.all_eq_true.1 SE b (gN.2 h))
theorem Ja(b:Nat):(hH (wd 8 b)).toNat=wd 8 b:=by
 have:=zV 8 b;simp;omega
theorem V6(d:Nat):wd 32 d=wd 8 (d>>>24)+wd 8 ((d>>>16)&&&255)+wd 8 ((d>>>8)&&&255)+wd 8 (d&&&255):=by
 rw[UF,UF,UF,show(32:Nat)=8+(8+(8+8))from rfl,Er,Er,Er]
 simp only[←Nat.shiftRight_add,Nat.reduceAdd];omega
set_option maxRecDepth 100000 in
theorem S3{d:Nat}(hd:d<4294967296){h:ad}{K:Int→ad→Prop}(hk:K (wd 32 d:Int) h):HC PG kS [.int .u32 d] [.c (.int .i64)] K h:=by
 refine vJ d ?_;unfold pL;have e24:dT (d:Int) (2^(min (24:Int).toNat (IntKind.bits .u32)))=((d>>>24:Nat):Int):=m9 d 24;have e16:dT (d:Int) (2^(min (16:Int).toNat (IntKind.bits .u32)))=((d>>>16:Nat):Int):=m9 d 16;have e8:dT (d:Int) (2^(min (8:Int).toNat (IntKind.bits .u32)))=((d>>>8:Nat):Int):=m9 d 8;have b:∀x:Nat,x<4294967296→IntKind.wrap .u32 (ar (IntKind.bits .u32) (x:Int)&&&ar (IntKind.bits .u32) 255).toNat=((x&&&255:Nat):Int):=fun x hx=>by
  have:=Sb x 255;rw[iz hx]at this;rw[show((255:Nat):Int)=(255:Int)from rfl]at this
  rw[this,Ao (Jk (by omega))]
 have l24:d>>>24<256:=by rw[ii];omega
 have lb:∀x:Nat,x&&&255<256:=fun x=>jD Nat.and_le_right (by omega)
 have s16:d>>>16<4294967296:=jD (qs d 16) hd;have s8:d>>>8<4294967296:=jD (qs d 8) hd;simp only[Bd];rw[e24,e16,e8,b _ s16,b _ s8,b _ hd];refine⟨by decide,_,by omega,Ig (b:=d>>>24) l24,by decide,_,by omega,Ig (lb _),by decide,_,by omega,Ig (lb _),_,by omega,Ig (lb _),?_⟩
 rw[Ja,Ja,Ja,Ja];simp only[aX];have q1:=zV 8 (d>>>24);have q2:=zV 8 (d>>>16&&&255);have q3:=zV 8 (d>>>8&&&255);have q4:=zV 8 (d&&&255);rw[V6]at hk;have u8:∀n:Nat,n≤255→IntKind.wrap .u8 (n:Int)=(n:Int):=fun n hn=>Go.IntWalk.u8_in _ (by omega)
 rw[←Int.natCast_add,u8 _ (by omega),←Int.natCast_add,u8 _ (by omega),←Int.natCast_add,u8 _ (by omega),d8 (by omega)];exact hk
theorem rp{d i:Nat}(hd:d<4294967296)(hi:i<32){h:ad}{K:Int→ad→Prop}(hk:K (wd i d:Int) h):HC PG dy [.int .u32 d,.int .i64 i] [.c (.int .i64)] K h:=by
 refine Bw d i ?_;unfold uQ bX;refine aA (fun h0=>?_) fun h0=>?_
 ·have:i=0:=by omega
  subst this;exact hk
 ·refine aA (fun h=>by omega) fun _=>⟨by omega,?_⟩
  have e:min (i:Int).toNat (IntKind.bits .u32)=i:=by rw[aX];exact bF (by show i≤32;omega)
  have hp:2^i<4294967296:=Nat.pow_lt_pow_right (by omega) (show i<32 from hi)
  have hp0:0<2^i:=Nat.pow_pos (by omega);have e2:(1*2^i:Int)=((2^i:Nat):Int):=by simp
  have e3:(((2^i:Nat):Int)-1)=((2^i-1:Nat):Int):=by omega
  simp only[Bd];rw[e,e2,Ao hp,e3,Ao (show 2^i-1<4294967296 by omega),Sb,iz hd,iz (show 2^i-1<4294967296 by omega),Ao (Jk (by omega))]
  refine Ag _ ?_;unfold tU bX;refine S3 (Jk (by omega)) ?_;rw[OO d i 32 (by omega)];exact hk
end Go.Proofs
namespace Go.Proofs
open Go.Lift
def fm{β:Type}(g:Nat→Option β)(n:Nat):List β:=(gf n).filterMap g
def upd{β:Type}(g:Nat→Option β)(i:Nat)(x:Option β)(j:Nat):Option β:=if j=i then x else g j
theorem Vo{β:Type}{f g:Nat→Option β}:∀l:List Nat,(∀j∈l,f j=g j)→l.filterMap f=l.filterMap g
 | [],_=>rfl
 |j::l,h=>by
  rw[List.filterMap_cons,List.filterMap_cons,h j (ao ..),Vo l fun k hk=>h k (List.mem_cons_of_mem _ hk)]
section
variable {β:Type} {g:Nat→Option β} {d:Nat}
theorem Fv(hd:∀c,c<32→d.testBit c=(g c).isSome){i:Nat}(hi:i≤32):(fm g i).length=wd i d:=by
 unfold fm wd;rw[List.length_filterMap_eq_countP];exact List.countP_congr fun j hj=>by rw[hd j (by have:=gN.1 hj;omega)]
theorem rL{i n:Nat}(hi:i<n):fm g n=fm g i++((g i).toList++(gf (n-(i+1))).filterMap fun j=>g (i+1+j)):=by
 unfold fm;have e:n=i+(1+(n-(i+1))):=by omega
 rw[e,tW,qI,tW];have e2:i+(1+(n-(i+1)))-(i+1)=n-(i+1):=by omega
 rw[e2];congr 1
 rw[List.map_append,qI,List.map_map];congr 1
 rw[List.filterMap_map];refine Vo _ fun j _=>?_
 show g (i+(1+j))=_
 rw[Nat.add_assoc]
theorem zI{i:Nat}{x:Option β}:fm (upd g i x) i=fm g i:=by
 unfold fm;refine Vo _ fun j hj=>?_
 have:=gN.1 hj;unfold upd;rw[if_neg (by omega)]
theorem xL{i m:Nat}{x:Option β}:((gf m).filterMap fun j=>upd g i x (i+1+j))=(gf m).filterMap fun j=>g (i+1+j):=by
 refine Vo _ fun j _=>?_
 unfold upd;rw[if_neg (by omega)]
theorem Rv{i:Nat}(hi:i<32)(hd:∀c,c<32→d.testBit c=(g c).isSome)(hn:g i=none)(x:β):fm (upd g i (some x)) 32=(fm g 32).take (wd i d)++x::(fm g 32).drop (wd i d):=by
 have hl:=Fv hd (i:=i) (by omega);rw[rL (g:=upd g i (some x)) hi,rL (g:=g) hi,zI,xL,hn,dd hl,cL hl];simp[upd]
theorem Ru{i:Nat}(hi:i<32)(hd:∀c,c<32→d.testBit c=(g c).isSome){y:β}(hn:g i=some y)(x:β):fm (upd g i (some x)) 32=(fm g 32).take (wd i d)++x::(fm g 32).drop (wd i d+1):=by
 have hl:=Fv hd (i:=i) (by omega);rw[rL (g:=upd g i (some x)) hi,rL (g:=g) hi,zI,xL,hn,dd hl,←dP,cL hl];simp[upd]
theorem Rw{i:Nat}(hi:i<32)(hd:∀c,c<32→d.testBit c=(g c).isSome){y:β}(hn:g i=some y):fm (upd g i none) 32=(fm g 32).take (wd i d)++(fm g 32).drop (wd i d+1):=by
 have hl:=Fv hd (i:=i) (by omega);rw[rL (g:=upd g i none) hi,rL (g:=g) hi,zI,xL,hn,dd hl,←dP,cL hl];simp[upd]
theorem Rx{i:Nat}(hi:i<32)(hd:∀c,c<32→d.testBit c=(g c).isSome){y:β}(hn:g i=some y):(fm g 32)[wd i d]? =some y:=by
 have hl:=Fv hd (i:=i) (by omega);rw[rL (g:=g) hi,hn,List.getElem?_append_right (by omega),hl,Nat.sub_self];rfl
theorem HN{i:Nat}(hi:i<32)(hd:∀c,c<32→d.testBit c=(g c).isSome){y:β}(hn:g i=some y):wd i d<(fm g 32).length:=(List.getElem?_eq_some_iff.1 (Rx hi hd hn)).1
theorem TT{i:Nat}(hi:i<32)(hd:∀c,c<32→d.testBit c=(g c).isSome):wd i d≤(fm g 32).length:=by
 have hl:=Fv hd (i:=i) (by omega);rw[rL (g:=g) hi,ac];omega
theorem yW:(fm g 32).length≤32:=by
 have:=List.length_filterMap_le g (gf 32);simpa[fm]using this
end
end Go.Proofs
namespace Go.Proofs
open Go.Lift
abbrev sv(s:SliceV):Value:=.slice s.a s.len s.cap
structure Slots where
 p:Nat→Option Pr
 k:Nat→Option (Option Addr)
def fg(d n:Nat)(sp sk:SliceV)(bu:Bool)(ow:Option Addr):Array Value:= #[.int .u32 (d:Int),.int .u32 (n:Int),sv sp,sv sk,.bool bu,.pointer ow]
structure BitsOf(d n:Nat)(s:Slots):Prop where
 d32:d<4294967296
 n32:n<4294967296
 dp:∀c,c<32→d.testBit c=(s.p c).isSome
 nk:∀c,c<32→n.testBit c=(s.k c).isSome
structure NodeAt(W:Nat→Prop)(h:ad)(b:Nat)(s:Slots):Prop where
 ex:∃d n sp sk ow,h[b]? =some (.cells (fg d n sp sk false ow) bD (0,0))∧BitsOf d n s∧Sl eu 2 W h sp (fm s.p 32)∧Sl rH 1 W h sk (fm s.k 32)∧sp.len≤sp.cap∧sk.len≤sk.cap
 nw:¬W b
theorem NodeAt.upd{W M:Nat→Prop}{h h':ad}{b:Nat}{s:Slots}(n:NodeAt W h b s)(k:Upd M h h')(hm:∀b,M b→W b∨h.size≤b):NodeAt W h' b s:=by
 obtain⟨d,m,sp,sk,ow,h1,h2,h3,h4,h5,h6⟩:=n.ex;exact⟨⟨d,m,sp,sk,ow,k.get h1 (fun hb=>(hm _ hb).elim n.nw fun h=>by have:=aO h1;omega),h2,h3.upd k hm,h4.upd k hm,h5,h6⟩,n.nw⟩
structure OwnN(M:Nat→Prop)(h:ad)(b d n:Nat)(sp sk:SliceV)(s:Slots)(ow:Option Addr):Prop where
 blk:h[b]? =some (.cells (fg d n sp sk false ow) bD (0,0))
 bits:BitsOf d n s
 ex:∃A B:Nat→Prop,OwnS eu 2 af A h sp (fm s.p 32)∧OwnS rH 1 bU B h sk (fm s.k 32)∧(∀x,A x→M x∧¬B x∧x≠b∧x<h.size)∧(∀x,B x→M x∧x≠b∧x<h.size)
 mb:M b
theorem xF{h:ad}{K:Bool→ad→Prop}(hk:K false h):HC PG ip [.pointer none] [.c .bool] K h:=by
 refine zZ none ?_;unfold tM bI;exact aj.2 hk
theorem Hm{b:Nat}{h:ad}{K:Bool→ad→Prop}(hk:K false h):HC PG qc [.pointer (some ⟨b,0,none⟩),.pointer none] [.c .bool] K h:=by
 refine Bo _ none ?_;unfold uJ bj;exact av.2 (xF (aj.2 hk))
theorem OwnN.upd{M M':Nat→Prop}{h h':ad}{b d n:Nat}{sp sk:SliceV}{s:Slots}{ow:Option Addr}(o:OwnN M h b d n sp sk s ow)(k:Upd M' h h')(hm:∀x,M' x→¬M x):OwnN M h' b d n sp sk s ow:=by
 obtain⟨A,B,h1,h2,h3,h4⟩:=o.ex;have z:=k.size;exact⟨k.get o.blk fun hb=>hm _ hb o.mb,o.bits,⟨A,B,h1.upd k fun x hx hy=>hm _ hy (h3 x hx).1,h2.upd k fun x hx hy=>hm _ hy (h4 x hx).1,fun x hx=>⟨(h3 x hx).1,(h3 x hx).2.1,(h3 x hx).2.2.1,by have:=(h3 x hx).2.2.2;omega⟩,fun x hx=>⟨(h4 x hx).1,(h4 x hx).2.1,by have:=(h4 x hx).2.2;omega⟩⟩,o.mb⟩
set_option maxRecDepth 4000 in
theorem MI{W:Nat→Prop}{h:ad}{b:Nat}{s:Slots}(nd:NodeAt W h b s){K:Option Addr→ad→Prop}
  (hk:∀h' d n sp sk,OwnN (fun x=>h.size≤x) h' h.size d n sp sk s none→Upd No h h'→K (some ⟨h.size,0,none⟩) h'):
  HC PG gZ [.pointer (some ⟨b,0,none⟩),.pointer none] [.c .ptr] K h:=by
 obtain⟨d,n,sp,sk,ow,hb,bits,hsp,hsk,hcp,hck⟩:=nd.ex;refine xe _ none ?_;unfold sq bj cd nv bI dU iR mN Qn T4;refine Hm (aj.2 ?_);have c:∀{h:ad} {b:Nat} {c:Array Value} {i:Nat},h[b]? =some (.cells c bD (0,0))→aS h ⟨b,0+i,none⟩=c[i]?:=fun hb=>by rw[aP];exact bh hb
 refine⟨_,rfl,_,c (i:=0) hb,_,c (i:=1) hb,sp,c (i:=2) hb,sk,c (i:=3) hb,_,c (i:=4) hb,_,c (i:=5) hb,?_⟩;have k1:=Upd.hnew No h [.int .u32 0,.int .u32 0,.slice none 0 0,.slice none 0 0,.bool false,.pointer none] bD;have b1:=bZ h [.int .u32 0,.int .u32 0,.slice none 0 0,.slice none 0 0,.bool false,.pointer none] bD;refine bq ?_;simp only[cJ h];generalize hnew h [.int .u32 0,.int .u32 0,.slice none 0 0,.slice none 0 0,.bool false,.pointer none] bD=h1 at k1 b1
 have hs1:fk h1 ⟨h.size,0,none⟩ 0 [.int .u32 (d:Int),.int .u32 (n:Int),.slice sp.a sp.len sp.cap,.slice sk.a sk.len sk.cap,.bool false,.pointer ow]=_:=jq _ h1 0 0 _ b1 (by simp);refine⟨.inr ⟨_,rfl,fun j hj=>by rw[ci];exact iI b1 (by simp at hj⊢;omega)⟩,bq ?_⟩
 rw[hs1];have b2:=jg (o:=.cells (fg d n sp sk false ow) bD (0,0)) b1;have k2:Upd No h _:=k1.trans (M':=(· =h.size)) (Upd.set h1 (.cells (fg d n sp sk false ow) bD (0,0)) rfl) fun x hx=>.inr (eI hx.symm)
 have hz2:h.size<(h1.setIfInBounds h.size (.cells (fg d n sp sk false ow) bD (0,0))).size:=aO b2;have hbb:h.size≠b:=fun e=>by have:=aO hb;omega
 have e2:(Obj.cells (List.take (0+0) [Value.int .u32 0,.int .u32 0,.slice none 0 0,.slice none 0 0,.bool false,.pointer none]++ [Value.int .u32 (d:Int),.int .u32 (n:Int),.slice sp.a sp.len sp.cap,.slice sk.a sk.len sk.cap,.bool false,.pointer ow]++List.drop (0+0+ [Value.int .u32 (d:Int),.int .u32 (n:Int),.slice sp.a sp.len sp.cap,.slice sk.a sk.len sk.cap,.bool false,.pointer ow].length) [Value.int .u32 0,.int .u32 0,.slice none 0 0,.slice none 0 0,.bool false,.pointer none]).toArray bD (0,0))=.cells (fg d n sp sk false ow) bD (0,0):=rfl
 rw[e2];generalize h1.setIfInBounds h.size (.cells (fg d n sp sk false ow) bD (0,0))=h2 at b2 k2 hz2;have hb2:=k2.get0 hb;refine⟨_,rfl,sp,c (i:=2) hb2,_,rfl,sk,c (i:=3) hb2,?_⟩;refine vD (hsp.upd k2 fun _ h=>h.elim) (by have:=yW (g:=s.p);omega) fun s3 h3 ho3 hu3=>?_
 refine⟨c (i:=3) (hu3.get0 hb2),?_⟩;refine Ct ((hsk.upd k2 fun _ h=>h.elim).upd hu3 fun _ h=>h.elim) (by have:=yW (g:=s.k);omega) fun s4 h4 ho4 hu4=>?_
 have b4:=hu4.get0 (hu3.get0 b2);have ho3':=ho3.within.upd hu4 fun _ _ h=>h
 have ho4':=ho4.within;have z3:=hu3.size;have z4:=hu4.size;have w:∀{h:ad} {c:Array Value} {x i:Nat},h[x]? =some (.cells c bD (0,0))→i<c.size→Wr h ⟨x,0+i,none⟩:=fun hb hi=>by rw[aP];exact iI hb hi
 have st:∀{h:ad} {c c':Array Value} {x i:Nat} {v:Value} {k:ad→Prop},h[x]? =some (.cells c bD (0,0))→c.setIfInBounds i v=c'→(∀h',h'[x]? =some (.cells c' bD (0,0))→Upd (· =x) h h'→k h')→At (hset h ⟨x,i,none⟩ v) k:=fun hb e hk=>yb hb fun h' hb' hu=>hk h' (e▸hb') hu
 refine⟨w (i:=2) b4 (show 2<6 by decide),st (i:=2) (c':=fg d n s3 sk false ow) b4 rfl fun h5 b5 hu5=>?_⟩
 refine⟨w (i:=3) b5 (show 3<6 by decide),st (i:=3) (c':=fg d n s3 s4 false ow) b5 rfl fun h6 b6 hu6=>?_⟩
 refine⟨w (i:=5) b6 (show 5<6 by decide),st (i:=5) (c':=fg d n s3 s4 false none) b6 rfl fun h7 b7 hu7=>?_⟩
 refine xF (aj.2 ?_);have hu47:=hu5.tr (hu6.tr hu7);have z7:=hu47.size;refine hk _ d n s3 s4 ⟨b7,bits,⟨fun x=>h2.size≤x∧x<h3.size,fun x=>h3.size≤x∧x<h4.size,ho3'.upd hu47 fun x hx e=>by have e:x=h.size:=e;omega,ho4'.upd hu47 fun x hx e=>by have e:x=h.size:=e;omega,fun x hx=>⟨by omega,by omega,by omega,by omega⟩,fun x hx=>⟨by omega,by omega,by omega⟩⟩,aq _⟩ ?_
 exact((k2.tr hu3).tr hu4).trans hu47 fun x hx=>.inr (eI hx.symm)
end Go.Proofs
namespace Go.Proofs
open Go.Lift
theorem vl{β:Type}{g:Nat→Option β}{i:Nat}(h:g i=none):upd g i none=g:=by
 funext j;unfold upd;split
 ·rename_i e;rw[e,h]
 ·rfl
theorem eJ{h:ad}{b:Nat}{c:Array Value}{t:TypeId}{i:Nat}(hb:h[b]? =some (.cells c t (0,0))):aS h ⟨b,0+i,none⟩=c[i]?:=by rw[aP];exact bh hb
theorem Sq{h:ad}{b:Nat}{c:Array Value}{t:TypeId}{i:Nat}(hb:h[b]? =some (.cells c t (0,0))) (hi:i<c.size):Wr h ⟨b,0+i,none⟩:=by rw[aP];exact iI hb hi
theorem Gt{h:ad}{b:Nat}{c c':Array Value}{t:TypeId}{i:Nat}{v:Value}{k:ad→Prop}(hb:h[b]? =some (.cells c t (0,0))) (e:c.setIfInBounds i v=c')
 (hk:∀h',h'[b]? =some (.cells c' t (0,0))→Upd (· =b) h h'→k h'):At (hset h ⟨b,i,none⟩ v) k:=yb hb fun h' hb' hu=>hk h' (e▸hb') hu
theorem I0{M:Nat→Prop}{h:ad}{b d n:Nat}{sp sk:SliceV}{s:Slots}{ow:Option Addr}(o:OwnN M h b d n sp sk s ow){i:Nat}(hi:i<32){K:Unit→ad→Prop}
  (hk:∀h' d' n' sp' sk',OwnN M h' b d' n' sp' sk' ⟨upd s.p i none,upd s.k i none⟩ ow→Upd M h h'→K () h'):HC PG j5 [.pointer (some ⟨b,0,none⟩),.int .i64 i] [] K h:=by
 obtain⟨A,B,hA,hB,hAm,hBm⟩:=o.ex;have bits:=o.bits;refine Bl _ i ?_;unfold uH cd bX dU iR pe kQ JL;have ew:∀k:Nat,k≤100→IntKind.wrap .i64 ((k:Int)+1)=((k+1:Nat):Int):=fun k hk=>by rw[d8 (by omega)];omega
 have hc1:=zV i d;have hc2:=zV i n;have hAM:∀x,A x→M x∨h.size≤x:=fun x hx=>.inl (hAm x hx).1
 refine Join.intro (fun _ h'=>∃sp',h'[b]? =some (.cells (fg d n sp' sk false ow) bD (0,0))∧OwnS eu 2 af A h' sp' (fm (upd s.p i none) 32)∧OwnS rH 1 bU B h' sk (fm s.k 32)∧Upd M h h') (fun R hR=>?_) ?_
 ·refine⟨_,rfl,_,eJ (i:=0) o.blk,Cl bits.d32 hi ?_⟩
  rw[bits.dp i hi];cases hp:s.p i with
  |none=>exact aj.2 (hR _ _ ⟨sp,o.blk,by rw[vl hp];exact hA,hB,Upd.refl _ _⟩)
  |some y=>
   refine av.2 ⟨_,rfl,_,eJ (i:=0) o.blk,rp bits.d32 hi ⟨_,rfl,sp,eJ (i:=2) o.blk,?_⟩⟩;rw[ew _ (by omega)];refine Nk hA (HN hi bits.dp hp) (by have:=yW (g:=s.p);omega) fun s2 h2 ho2 hu2=>?_
   rw[←Rw hi bits.dp hp]at ho2;have b2:=hu2.get o.blk fun hb=>(hAm b hb).2.2.1 rfl
   refine⟨_,rfl,Sq (i:=2) b2 (show 2<6 by decide),Gt (i:=2) (c':=fg d n s2 sk false ow) b2 rfl fun h3 b3 hu3=>?_⟩
   refine hR _ _ ⟨s2,b3,ho2.upd hu3 fun x hx e=>(hAm x hx).2.2.1 e,(hB.upd hu2 fun x hx hy=>(hAm x hy).2.1 hx).upd hu3 fun x hx e=>(hBm x hx).2.1 e,(hu2.mono hAM).tr (hu3.mono fun x e=>.inl (e▸o.mb))⟩
 rintro _ h1 ⟨sp1,b1,hA1,hB1,hu1⟩;refine Join.intro (fun _ h'=>∃sk',h'[b]? =some (.cells (fg d n sp1 sk' false ow) bD (0,0))∧OwnS eu 2 af A h' sp1 (fm (upd s.p i none) 32)∧OwnS rH 1 bU B h' sk' (fm (upd s.k i none) 32)∧Upd M h1 h') (fun R hR=>?_) ?_
 ·refine⟨_,rfl,_,eJ (i:=1) b1,Cl bits.n32 hi ?_⟩
  rw[bits.nk i hi];cases hp:s.k i with
  |none=>exact aj.2 (hR _ _ ⟨sk,b1,hA1,by rw[vl hp];exact hB1,Upd.refl _ _⟩)
  |some y=>
   refine av.2 ⟨_,rfl,_,eJ (i:=1) b1,rp bits.n32 hi ⟨_,rfl,sk,eJ (i:=3) b1,?_⟩⟩;rw[ew _ (by omega)];refine Nl hB1 (HN hi bits.nk hp) (by have:=yW (g:=s.k);omega) fun s2 h2 ho2 hu2=>?_
   rw[←Rw hi bits.nk hp]at ho2;have b2:=hu2.get b1 fun hb=>(hBm b hb).2.1 rfl
   refine⟨_,rfl,Sq (i:=3) b2 (show 3<6 by decide),Gt (i:=3) (c':=fg d n sp1 s2 false ow) b2 rfl fun h3 b3 hu3=>?_⟩
   refine hR _ _ ⟨s2,b3,(hA1.upd hu2 fun x hx hy=>(hAm x hx).2.1 hy).upd hu3 fun x hx e=>(hAm x hx).2.2.1 e,ho2.upd hu3 fun x hx e=>(hBm x hx).2.1 e,(hu2.mono fun x hx=>.inl (hBm x hx).1).tr (hu3.mono fun x e=>.inl (e▸o.mb))⟩
 rintro _ h2 ⟨sk2,b2,hA2,hB2,hu2⟩;refine⟨_,rfl,_,eJ (i:=0) b2,_,rfl,_,eJ (i:=1) b2,?_⟩;refine Ey bits.d32 hi fun d' hd' hdt=>⟨eJ (i:=1) b2,?_⟩
 refine Ey bits.n32 hi fun n' hn' hnt=>?_
 refine⟨_,rfl,Sq (i:=0) b2 (show 0<6 by decide),Gt (i:=0) (c':=fg d' n sp1 sk2 false ow) b2 rfl fun h3 b3 hu3=>?_⟩
 refine⟨_,rfl,Sq (i:=1) b3 (show 1<6 by decide),Gt (i:=1) (c':=fg d' n' sp1 sk2 false ow) b3 rfl fun h4 b4 hu4=>?_⟩
 have hu34:=hu3.tr hu4;have z:=(hu1.tr (hu2.tr (hu34.mono (M':=M) fun x e=>.inl (e▸o.mb)))).size
 refine hk h4 d' n' sp1 sk2 ⟨b4,⟨hd',hn',fun c hc=>?_,fun c hc=>?_⟩,⟨A,B,hA2.upd hu34 fun x hx e=>(hAm x hx).2.2.1 e,hB2.upd hu34 fun x hx e=>(hBm x hx).2.1 e,fun x hx=>⟨(hAm x hx).1,(hAm x hx).2.1,(hAm x hx).2.2.1,by have:=(hAm x hx).2.2.2;omega⟩,fun x hx=>⟨(hBm x hx).1,(hBm x hx).2.1,by have:=(hBm x hx).2.2;omega⟩⟩,o.mb⟩ (hu1.tr (hu2.tr (hu34.mono fun x e=>.inl (e▸o.mb))))
 ·rw[hdt,bits.dp c hc];simp only[upd];split<;>simp[*]
 ·rw[hnt,bits.nk c hc];simp only[upd];split<;>simp[*]
end Go.Proofs
namespace Go.Proofs
open Go.Lift
theorem OwnS.setAt{α:Type}{f:α→List Value}{sz:Nat}{t:TypeId}{M:Nat→Prop}{h:ad}{s:SliceV}{xs:List α}(hs:OwnS f sz t M h s xs){k:Nat}(hkl:k<xs.length)(x:α):
  ∃a,s.a=some a∧M a.block∧qE h (some (adr a (k*sz))) 0 (f x)∧OwnS f sz t M (fk h (adr a (k*sz)) 0 (f x)) s (xs.take k++x::xs.drop (k+1))∧Upd (· =a.block) h (fk h (adr a (k*sz)) 0 (f x)):=by
 have hf:∀x,(f x).length=sz∧0<sz:=hs.ne;have hlen:=hs.len;have hcap:=hs.cap;rcases hs.blk with h0|⟨b,rest,ha,hb,hc,hr⟩
 ·omega
 have hA:((xs.take k).flatMap f).length=k*sz:=by rw[lD hf,aQ,bF (by omega)]
 have e1:xs.flatMap f=(xs.take k).flatMap f++(f xs[k]++(xs.drop (k+1)).flatMap f):=by
  rw[←aI,←List.drop_eq_getElem_cons hkl];exact zT xs k
 rw[e1]at hc;have hX:=(hf xs[k]).1;have hY:=(hf x).1;have hins:(xs.take k++x::xs.drop (k+1)).flatMap f=(xs.take k).flatMap f++(f x++(xs.drop (k+1)).flatMap f):=by rw[List.flatMap_append,aI]
 generalize (xs.take k).flatMap f=A at hA hc hins;generalize (xs.drop (k+1)).flatMap f=B at hc hins;generalize f xs[k]=X at hX hc;have hl:k*sz+0+(f x).length≤(A++(X++B)++rest).length:=by simp only[ac];omega
 have ea:adr ⟨b,0,none⟩ (k*sz)=⟨b,k*sz,none⟩:=by rw[ci,aP]
 refine⟨⟨b,0,none⟩,ha,hb,?_,?_,?_⟩
 ·rw[ea]
  refine .inr ⟨_,rfl,fun j hj=>?_⟩
  rw[ci];exact iI hc (by rw[List.size_toArray];omega)
 ·rw[ea,jq (f x) h 0 (k*sz) _ hc hl]
  refine⟨by simp;omega,hf,hcap,.inr ⟨b,rest,ha,hb,?_,?_⟩⟩
  ·rw[jg hc,hins]
   congr 3
   rw[Nat.add_zero,al A,dd hA,←dP,cL hA,al X,cL (by omega)];simp only[al]
  ·exact hr
 ·rw[ea,jq (f x) h 0 (k*sz) _ hc hl]
  exact Upd.set h _ rfl
theorem OwnN.node{M W:Nat→Prop}{h:ad}{b d n:Nat}{sp sk:SliceV}{s:Slots}{ow:Option Addr}(o:OwnN M h b d n sp sk s ow)(hW:∀x,M x→¬W x):NodeAt W h b s:=by
 obtain⟨A,B,h1,h2,h3,h4⟩:=o.ex;exact⟨⟨d,n,sp,sk,ow,o.blk,o.bits,h1.sl fun x hx _=>hW _ (h3 x hx).1,h2.sl fun x hx _=>hW _ (h4 x hx).1,h1.cap,h2.cap⟩,hW _ o.mb⟩
theorem Fq{W:Nat→Prop}{h:ad}{b:Nat}{s:Slots}(nd:NodeAt W h b s){i:Nat}(hi:i<32){K:Bool→ad→Prop}(hk:K true h):HC PG j6 [.pointer (some ⟨b,0,none⟩),.int .i64 i] [.c .bool] K h:=by
 obtain⟨d,n,sp,sk,ow,hb,_⟩:=nd.ex;refine Bm _ i ?_;unfold uI bI;refine av.2 ⟨_,rfl,_,eJ (i:=4) hb,av.2 ?_⟩;refine aA (fun _=>?_) fun h=>absurd (Int.natCast_nonneg i) h
 rw[decide_eq_true (by omega)];exact hk
theorem N2{β:Type}{g:Nat→Option β}{i:Nat}{x y:Option β}:upd (upd g i x) i y=upd g i y:=by
 funext j;unfold upd;split<;>rfl
theorem fV{β:Type}{g:Nat→Option β}{i:Nat}{x:Option β}:upd g i x i=x:=by simp[upd]
theorem qN{W:Nat→Prop}{h:ad}{b:Nat}{s:Slots}(nd:NodeAt W h b s)(hW:∀x,W x→x<h.size){i:Nat}(hi:i<32)(hx:∀y,s.p i=some y→s.k i=none)(p:Pr){K:Option Addr→ad→Prop}
  (hk:∀h' b',NodeAt W h' b' ⟨upd s.p i (some p),upd s.k i none⟩→Upd No h h'→K (some ⟨b',0,none⟩) h'):
  HC PG dY [.pointer (some ⟨b,0,none⟩),.pointer none,.int .i64 i,.agg #[.string p.1,.string p.2]] [.c .ptr] K h:=by
 refine yL _ none i p ?_;unfold sG cj au cd jH bX fC dU vp ll iR pe kQ mN;have k1:=Upd.hnew No h [.string p.1,.string p.2] af;have b1:=bZ h [.string p.1,.string p.2] af;refine bq ?_;simp only[cJ h];generalize hnew h [.string p.1,.string p.2] af=h1 at k1 b1;have z1:=aO b1;have nd1:=nd.upd k1 fun _ h=>h.elim
 refine Fq nd1 hi (aj.2 ?_);refine MI nd1 fun h2 d n sp sk o hu2=>?_
 have bits:=o.bits;obtain⟨A,B,hA,hB,hAm,hBm⟩:=o.ex;have hu02:=k1.tr hu2;have b12:=hu2.get0 b1;have hMW:∀x,h1.size≤x→¬W x:=fun x hx hw=>by have:=hW x hw;omega
 refine⟨_,rfl,_,eJ (i:=0) o.blk,Cl bits.d32 hi ?_⟩;rw[bits.dp i hi];cases hp:s.p i with
 |some y=>
  refine av.2 ⟨_,rfl,sp,eJ (i:=2) o.blk,_,rfl,_,eJ (i:=0) o.blk,p.1,by rw[ci,bh b12];rfl,p.2,by rw[ci,bh b12];rfl,?_⟩
  refine rp bits.d32 hi ⟨⟨by rw[ci,bh b12];rfl,by rw[ci,bh b12];rfl⟩,eJ (i:=2) o.blk,?_⟩
  have hlt:=HN hi bits.dp hp;obtain⟨a,ha,hab,hw,ho3,hu3⟩:=OwnS.setAt hA hlt p;have hlen:=hA.len;refine⟨by omega,a,ha,?_⟩;rw[aX];refine⟨hw,bq ?_⟩;rw[←Ru hi bits.dp hp]at ho3;have ob:=hu3.get o.blk fun e=>(hAm _ hab).2.2.1 e.symm
  have z3:=hu3.size;have o3:OwnN (fun x=>h1.size≤x) _ h1.size d n sp sk ⟨upd s.p i (some p),upd s.k i none⟩ none:=⟨ob,⟨bits.d32,bits.n32,fun c hc=>by
    rw[bits.dp c hc];simp only[upd];split
    ·rename_i e;rw[e,hp];rfl
    ·rfl,fun c hc=>by rw[bits.nk c hc,vl (hx y hp)]⟩,
   ⟨A,B,ho3,by rw[vl (hx y hp)];exact hB.upd hu3 fun x hx e=>(hAm _ hab).2.1 (e▸hx),fun x hx=>⟨(hAm x hx).1,(hAm x hx).2.1,(hAm x hx).2.2.1,by have:=(hAm x hx).2.2.2;omega⟩,fun x hx=>⟨(hBm x hx).1,(hBm x hx).2.1,by have:=(hBm x hx).2.2;omega⟩⟩,o.mb⟩
  refine hk _ _ (o3.node hMW) (hu02.trans hu3 fun x hx=>.inr ?_)
  have:=(hAm _ hab).1;have hx:x=a.block:=hx;omega
 |none=>
  refine aj.2 ⟨_,rfl,I0 o hi fun h3 d3 n3 sp3 sk3 o3 hu3=>?_⟩
  have bits3:=o3.bits;obtain⟨A3,B3,hA3,hB3,hAm3,hBm3⟩:=o3.ex;have z2:=hu2.size;have z3:=hu3.size;have b13:=hu3.get b12 (show ¬h1.size≤h.size by omega)
  have hu03:Upd No h h3:=hu02.trans hu3 fun x hx=>.inr (bc (Nat.le_of_lt z1) hx)
  refine⟨_,rfl,sp3,eJ (i:=2) o3.blk,_,rfl,_,eJ (i:=0) o3.blk,p.1,by rw[ci,bh b13];rfl,p.2,by rw[ci,bh b13];rfl,?_⟩
  have k4:=Upd.hnew No h3 [.string p.1,.string p.2] af;have b4:=bZ h3 [.string p.1,.string p.2] af;have z4:=iS h3 [.string p.1,.string p.2] af;have o4:=o3.upd k4 fun _ h=>h.elim
  have fin:HC PG c7 [.slice sp3.a sp3.len sp3.cap,.int .i64 (wd i d3),.slice (some (ag h3)) 1 1] [.c .slice] (fun(e32:SliceV) h33=>
       ∃a34:Addr,some (⟨h1.size,0,none⟩:Addr)=some a34∧
       (Wr h33 (adr (adr a34 0) 2)∧
        At (hset h33 (adr (adr a34 0) 2) (.slice e32.a e32.len e32.cap)) (fun h35=>
         ∃a36:Addr,some (⟨h1.size,0,none⟩:Addr)=some a36∧
         ∃v37:Int,aS h35 (adr (adr a36 0) 0)=some (.int .u32 v37)∧
         HC PG fP [.int .u32 v37,.int .i64 i] [.c (.int .u32)] (fun(e38:Int) h39=>
          ∃a40:Addr,some (⟨h1.size,0,none⟩:Addr)=some a40∧
          (Wr h39 (adr (adr a40 0) 0)∧
           At (hset h39 (adr (adr a40 0) 0) (.int .u32 e38)) (fun h41=>
            K (some ⟨h1.size,0,none⟩) h41))) h35))) (hnew h3 [.string p.1,.string p.2] af):=by
   generalize hnew h3 [.string p.1,.string p.2] af=h4 at k4 b4 z4 o4;rw[cJ h3];have hA4:=(hA3.upd k4 fun _ _ h=>h).more (M':=fun x=>A3 x∨h4.size≤x) fun x hx=>.inl hx
   have hpn:(⟨upd s.p i none,upd s.k i none⟩:Slots).p i=none:=fV;refine M3 hA4 (TT hi bits3.dp) (by have:=yW (g:=(⟨upd s.p i none,upd s.k i none⟩:Slots).p);omega) (x:=p) b4 (fun e=>e.elim (fun e=>by have:=(hAm3 _ e).2.2.2;omega) fun e=>by omega) (fun x hx=>.inr hx) fun s5 h5 ho5 hu5=>?_
   rw[←Rv hi bits3.dp hpn p]at ho5;have hbl:h1.size<h3.size:=aO o3.blk;have b5:=hu5.get o4.blk fun e=>e.elim (fun e=>(hAm3 _ e).2.2.1 rfl) fun e=>by omega
   refine⟨_,rfl,Sq (i:=2) b5 (show 2<6 by decide),Gt (i:=2) (c':=fg d3 n3 s5 sk3 false none) b5 rfl fun h6 b6 hu6=>?_⟩
   refine⟨_,rfl,_,eJ (i:=0) b6,N1 bits3.d32 hi fun w hw hwt=>?_⟩
   refine⟨_,rfl,Sq (i:=0) b6 (show 0<6 by decide),Gt (i:=0) (c':=fg w n3 s5 sk3 false none) b6 rfl fun h7 b7 hu7=>?_⟩
   have hu57:=hu6.tr hu7;have z5:=hu5.size;have z7:=hu57.size;have ho5':=ho5.within;have e1:(⟨upd (⟨upd s.p i none,upd s.k i none⟩:Slots).p i (some p),upd s.k i none⟩:Slots)=⟨upd s.p i (some p),upd s.k i none⟩:=by rw[N2]
   have o7:OwnN (fun x=>h1.size≤x) h7 h1.size w n3 s5 sk3 ⟨upd s.p i (some p),upd s.k i none⟩ none:=by
    rw[←e1];refine⟨b7,⟨hw,bits3.n32,fun c hc=>?_,bits3.nk⟩,⟨fun x=>(A3 x∨h4.size≤x)∧x<h5.size,B3,ho5'.upd hu57 fun x hx e=>?_,((hB3.upd k4 fun _ _ h=>h).upd hu5 fun x hx e=>?_).upd hu57 fun x hx e=>(hBm3 x hx).2.1 e,fun x hx=>⟨?_,?_,?_,by omega⟩,fun x hx=>⟨(hBm3 x hx).1,(hBm3 x hx).2.1,by have:=(hBm3 x hx).2.2;omega⟩⟩,o.mb⟩
    ·rw[hwt,bits3.dp c hc];simp only[upd];split<;>simp[*]
    ·have e:x=h1.size:=e
     rcases hx.1 with h|h
     ·exact(hAm3 x h).2.2.1 e
     ·omega
    ·rcases e with e|e
     ·exact(hAm3 x e).2.1 hx
     ·have:=(hBm3 x hx).2.2;omega
    ·rcases hx.1 with h|h
     ·exact(hAm3 x h).1
     ·omega
    ·rcases hx.1 with h|h
     ·exact(hAm3 x h).2.1
     ·exact fun hb=>by have:=(hBm3 x hb).2.2;omega
    ·rcases hx.1 with h|h
     ·exact(hAm3 x h).2.2.1
     ·omega
   refine hk _ _ (o7.node hMW) (((hu03.tr k4).trans hu5 fun x hx=>.inr ?_).trans hu57 fun x hx=>.inr ?_)
   ·rcases hx with h|h
    ·have:=(hAm3 x h).1;omega
    ·omega
   ·have hx:x=h1.size:=hx
    omega
  refine⟨rp bits3.d32 hi ⟨⟨by rw[ci,bh b13];rfl,by rw[ci,bh b13];rfl⟩,eJ (i:=2) o3.blk,bq ⟨eJ (i:=2) o4.blk,fin⟩⟩,bq ⟨eJ (i:=0) o4.blk,eJ (i:=2) o4.blk,rp bits3.d32 hi ⟨eJ (i:=2) o4.blk,fin⟩⟩⟩
end Go.Proofs
namespace Go.Proofs
open Go.Lift
theorem RJ{W:Nat→Prop}{h:ad}{b:Nat}{s:Slots}(nd:NodeAt W h b s)(hW:∀x,W x→x<h.size){i:Nat}(hi:i<32){K:Option Addr→ad→Prop}
  (hk:∀h' b',NodeAt W h' b' ⟨upd s.p i none,upd s.k i none⟩→Upd No h h'→K (some ⟨b',0,none⟩) h'):
  HC PG my [.pointer (some ⟨b,0,none⟩),.pointer none,.int .i64 i] [.c .ptr] K h:=by
 refine Bq _ none i ?_;unfold uL ll mN;refine Fq nd hi (aj.2 ?_);refine MI nd fun h2 d n sp sk o hu2=>⟨_,rfl,I0 o hi fun h3 d3 n3 sp3 sk3 o3 hu3=>?_⟩
 exact hk _ _ (o3.node fun x hx hw=>by have:=hW x hw;omega) (hu2.trans hu3 fun x hx=>.inr hx)
theorem vm{W:Nat→Prop}{h:ad}{b:Nat}{s:Slots}(nd:NodeAt W h b s)(hW:∀x,W x→x<h.size){i:Nat}(hi:i<32)(hx:∀y,s.k i=some y→s.p i=none)(kid:Addr){K:Option Addr→ad→Prop}
  (hk:∀h' b',NodeAt W h' b' ⟨upd s.p i none,upd s.k i (some (some kid))⟩→Upd No h h'→K (some ⟨b',0,none⟩) h'):
  HC PG fh [.pointer (some ⟨b,0,none⟩),.pointer none,.int .i64 i,.pointer (some kid)] [.c .ptr] K h:=by
 refine Ae _ none i (some kid) ?_;unfold tS cj cd bX dU ll iR pe kQ mN Ia;refine aj.2 ?_;refine Fq nd hi (aj.2 ?_);refine MI nd fun h2 d n sp sk o hu2=>?_
 have bits:=o.bits;obtain⟨A,B,hA,hB,hAm,hBm⟩:=o.ex;have hMW:∀x,h.size≤x→¬W x:=fun x hx hw=>by have:=hW x hw;omega
 refine⟨_,rfl,_,eJ (i:=1) o.blk,Cl bits.n32 hi ?_⟩;rw[bits.nk i hi];cases hp:s.k i with
 |some y=>
  refine av.2 ⟨_,rfl,sk,eJ (i:=3) o.blk,_,rfl,_,eJ (i:=1) o.blk,?_⟩;refine rp bits.n32 hi ⟨eJ (i:=3) o.blk,?_⟩;have hlt:=HN hi bits.nk hp;obtain⟨a,ha,hab,hw,ho3,hu3⟩:=OwnS.setAt hB hlt (some kid);have hlen:=hB.len;refine⟨by omega,a,ha,?_⟩;rw[aX];have hw1:Wr h2 (adr a (wd i n*1)):=by
   rcases hw with hw|⟨b',hb',hw⟩
   ·cases hw
   ·cases hb';exact hw 0 (by simp)
  refine⟨hw1,bq ?_⟩;rw[←Ru hi bits.nk hp]at ho3;have ob:=hu3.get o.blk fun e=>(hBm _ hab).2.1 e.symm
  have z3:=hu3.size;have o3:OwnN (fun x=>h.size≤x) _ h.size d n sp sk ⟨upd s.p i none,upd s.k i (some (some kid))⟩ none:=⟨ob,⟨bits.d32,bits.n32,fun c hc=>by rw[bits.dp c hc,vl (hx y hp)],fun c hc=>by
    rw[bits.nk c hc];simp only[upd];split
    ·rename_i e;rw[e,hp];rfl
    ·rfl⟩,
   ⟨A,B,by rw[vl (hx y hp)];exact hA.upd hu3 fun x hx e=>(hAm _ hx).2.1 (e▸hab),ho3,fun x hx=>⟨(hAm x hx).1,(hAm x hx).2.1,(hAm x hx).2.2.1,by have:=(hAm x hx).2.2.2;omega⟩,fun x hx=>⟨(hBm x hx).1,(hBm x hx).2.1,by have:=(hBm x hx).2.2;omega⟩⟩,o.mb⟩
  refine hk _ _ (o3.node hMW) (hu2.trans hu3 fun x hx=>.inr ?_)
  have:=(hBm _ hab).1;have hx:x=a.block:=hx;omega
 |none=>
  refine aj.2 ⟨_,rfl,I0 o hi fun h3 d3 n3 sp3 sk3 o3 hu3=>?_⟩
  have bits3:=o3.bits;obtain⟨A3,B3,hA3,hB3,hAm3,hBm3⟩:=o3.ex;have z2:=hu2.size;have z3:=hu3.size;have hu03:Upd No h h3:=hu2.trans hu3 fun x hx=>.inr hx
  refine⟨_,rfl,sk3,eJ (i:=3) o3.blk,_,rfl,_,eJ (i:=1) o3.blk,?_⟩;have k4:=Upd.hnew No h3 [.pointer (some kid)] bU;have b4:=bZ h3 [.pointer (some kid)] bU;have z4:=iS h3 [.pointer (some kid)] bU;have o4:=o3.upd k4 fun _ h=>h.elim
  have fin:HC PG cK [.slice sk3.a sk3.len sk3.cap,.int .i64 (wd i n3),.slice (some (ag h3)) 1 1] [.c .slice] (fun(e32:SliceV) h33=>
       ∃a34:Addr,some (⟨h.size,0,none⟩:Addr)=some a34∧
       (Wr h33 (adr (adr a34 0) 3)∧
        At (hset h33 (adr (adr a34 0) 3) (.slice e32.a e32.len e32.cap)) (fun h35=>
         ∃a36:Addr,some (⟨h.size,0,none⟩:Addr)=some a36∧
         ∃v37:Int,aS h35 (adr (adr a36 0) 1)=some (.int .u32 v37)∧
         HC PG fP [.int .u32 v37,.int .i64 i] [.c (.int .u32)] (fun(e38:Int) h39=>
          ∃a40:Addr,some (⟨h.size,0,none⟩:Addr)=some a40∧
          (Wr h39 (adr (adr a40 0) 1)∧
           At (hset h39 (adr (adr a40 0) 1) (.int .u32 e38)) (fun h41=>
            K (some ⟨h.size,0,none⟩) h41))) h35))) (hnew h3 [.pointer (some kid)] bU):=by
   generalize hnew h3 [.pointer (some kid)] bU=h4 at k4 b4 z4 o4;rw[cJ h3];have hB4:=(hB3.upd k4 fun _ _ h=>h).more (M':=fun x=>B3 x∨h4.size≤x) fun x hx=>.inl hx
   have hpn:(⟨upd s.p i none,upd s.k i none⟩:Slots).k i=none:=fV;refine M4 hB4 (TT hi bits3.nk) (by have:=yW (g:=(⟨upd s.p i none,upd s.k i none⟩:Slots).k);omega) (x:=some kid) b4 (fun e=>e.elim (fun e=>by have:=(hBm3 _ e).2.2;omega) fun e=>by omega) (fun x hx=>.inr hx) fun s5 h5 ho5 hu5=>?_
   rw[←Rv hi bits3.nk hpn (some kid)]at ho5;have hbl:h.size<h3.size:=aO o3.blk;have b5:=hu5.get o4.blk fun e=>e.elim (fun e=>(hBm3 _ e).2.1 rfl) fun e=>by omega
   refine⟨_,rfl,Sq (i:=3) b5 (show 3<6 by decide),Gt (i:=3) (c':=fg d3 n3 sp3 s5 false none) b5 rfl fun h6 b6 hu6=>?_⟩
   refine⟨_,rfl,_,eJ (i:=1) b6,N1 bits3.n32 hi fun w hw hwt=>?_⟩
   refine⟨_,rfl,Sq (i:=1) b6 (show 1<6 by decide),Gt (i:=1) (c':=fg d3 w sp3 s5 false none) b6 rfl fun h7 b7 hu7=>?_⟩
   have hu57:=hu6.tr hu7;have z5:=hu5.size;have z7:=hu57.size;have ho5':=ho5.within;have e1:(⟨upd s.p i none,upd (⟨upd s.p i none,upd s.k i none⟩:Slots).k i (some (some kid))⟩:Slots)=⟨upd s.p i none,upd s.k i (some (some kid))⟩:=by rw[N2]
   have o7:OwnN (fun x=>h.size≤x) h7 h.size d3 w sp3 s5 ⟨upd s.p i none,upd s.k i (some (some kid))⟩ none:=by
    rw[←e1];refine⟨b7,⟨bits3.d32,hw,bits3.dp,fun c hc=>?_⟩,⟨A3,fun x=>(B3 x∨h4.size≤x)∧x<h5.size,((hA3.upd k4 fun _ _ h=>h).upd hu5 fun x hx e=>?_).upd hu57 fun x hx e=>(hAm3 x hx).2.2.1 e,ho5'.upd hu57 fun x hx e=>?_,fun x hx=>⟨(hAm3 x hx).1,?_,(hAm3 x hx).2.2.1,by have:=(hAm3 x hx).2.2.2;omega⟩,fun x hx=>⟨?_,?_,by omega⟩⟩,o.mb⟩
    ·rw[hwt,bits3.nk c hc];simp only[upd];split<;>simp[*]
    ·rcases e with e|e
     ·exact(hAm3 x hx).2.1 e
     ·have:=(hAm3 x hx).2.2.2;omega
    ·have e:x=h.size:=e
     rcases hx.1 with h|h
     ·exact(hBm3 x h).2.1 e
     ·omega
    ·rintro⟨h|h,_⟩
     ·exact(hAm3 x hx).2.1 h
     ·have:=(hAm3 x hx).2.2.2;omega
    ·rcases hx.1 with h|h
     ·exact(hBm3 x h).1
     ·omega
    ·rcases hx.1 with h|h
     ·exact(hBm3 x h).2.1
     ·omega
   refine hk _ _ (o7.node hMW) (((hu03.tr k4).trans hu5 fun x hx=>.inr ?_).trans hu57 fun x hx=>.inr ?_)
   ·rcases hx with h|h
    ·exact(hBm3 x h).1
    ·omega
   ·have hx:x=h.size:=hx
    omega
  refine⟨rp bits3.n32 hi ⟨eJ (i:=3) o3.blk,bq ⟨eJ (i:=3) o4.blk,fin⟩⟩,bq ⟨eJ (i:=1) o4.blk,eJ (i:=3) o4.blk,rp bits3.n32 hi ⟨eJ (i:=3) o4.blk,fin⟩⟩⟩
end Go.Proofs
namespace Go.Proofs
open Go.Lift
theorem ON{h:ad}{b d n:Nat}{sp sk:SliceV}{bu:Bool}{ow:Option Addr}(hb:h[b]? =some (.cells (fg d n sp sk bu ow) bD (0,0))) {K:Int→ad→Prop} (hk:K (d:Int) h):HC PG nF [.pointer (some ⟨b,0,none⟩)] [.c (.int .u32)] K h:=by
 refine CN _ ?_;unfold vV iR;exact aj.2 ⟨_,rfl,_,eJ (i:=0) hb,hk⟩
theorem Fa{h:ad}{b d n:Nat}{sp sk:SliceV}{bu:Bool}{ow:Option Addr}(hb:h[b]? =some (.cells (fg d n sp sk bu ow) bD (0,0))) {K:Int→ad→Prop} (hk:K (n:Int) h):HC PG j7 [.pointer (some ⟨b,0,none⟩)] [.c (.int .u32)] K h:=by
 refine Bp _ ?_;unfold uK iR;exact aj.2 ⟨_,rfl,_,eJ (i:=1) hb,hk⟩
theorem gY{h:ad}{b d n:Nat}{sp sk:SliceV}{bu:Bool}{ow:Option Addr}(hb:h[b]? =some (.cells (fg d n sp sk bu ow) bD (0,0))) {K:Bool→ad→Prop} (hk:K bu h):HC PG dL [.pointer (some ⟨b,0,none⟩)] [.c .bool] K h:=by
 refine yc _ ?_;unfold rT bI;exact av.2 ⟨_,rfl,_,eJ (i:=4) hb,hk⟩
def Ro(o:Option Pr):Pr:=o.getD (⟨#[]⟩,⟨#[]⟩)
theorem Dk{h:ad}{b:Nat}{q p:Pr}(hb:h[b]? =some (.cells #[.string q.1,.string q.2] af (0,0))) {k:ad→Prop}
  (hk:∀h',h'[b]? =some (.cells #[.string p.1,.string p.2] af (0,0))→Upd (· =b) h h'→k h'):qE h (some ⟨b,0,none⟩) 0 [.string p.1,.string p.2]∧At (fk h ⟨b,0,none⟩ 0 [.string p.1,.string p.2]) k:=by
 have e:=jq [.string p.1,.string p.2] h 0 0 [.string q.1,.string q.2] hb (by simp);refine⟨.inr ⟨_,rfl,fun j hj=>by rw[ci];exact iI hb (by simp at hj⊢;omega)⟩,bq ?_⟩
 rw[e];refine hk _ ?_ (Upd.set h _ rfl);rw[jg hb];rfl
theorem AF{W:Nat→Prop}{h:ad}{b:Nat}{s:Slots}(nd:NodeAt W h b s){i:Nat}(hi:i<32){K:Pr×Bool→ad→Prop}(hk:∀h',Upd No h h'→K (Ro (s.p i),(s.p i).isSome) h'):
  HC PG js [.pointer (some ⟨b,0,none⟩),.int .i64 i] [.agg [.str,.str],.c .bool] K h:=by
 refine CL _ i ?_;unfold vT cj aD au cd cp nZ jH bX iR pe kQ;obtain⟨d,n,sp,sk,ow,hb,bits,hsp,hsk,hcp,hck⟩:=nd.ex;have k1:=Upd.hnew No h [.string (⟨#[]⟩:ByteArray),.string (⟨#[]⟩:ByteArray)] af;have b1:=bZ h [.string (⟨#[]⟩:ByteArray),.string (⟨#[]⟩:ByteArray)] af;refine bq ?_;simp only[cJ h];generalize hnew h [.string (⟨#[]⟩:ByteArray),.string (⟨#[]⟩:ByteArray)] af=h1 at k1 b1
 have hb1:=k1.get0 hb;have b1':h1[h.size]? =some (.cells #[.string LQ.1,.string LQ.2] af (0,0)):=b1;refine ON hb1 (Cl bits.d32 hi ?_);rw[bits.dp i hi];cases hp:s.p i with
 |none=>
  rw[hp]at hk;refine av.2 (Dk (p:=LQ) b1' fun h2 b2 hu2=>⟨_,by rw[ci,bh b2];rfl,_,by rw[ci,bh b2];rfl,hk _ (k1.trans hu2 fun x hx=>.inr (eI hx.symm))⟩)
 |some y=>
  rw[hp]at hk;refine aj.2 ⟨_,rfl,sp,eJ (i:=2) hb1,_,rfl,_,eJ (i:=0) hb1,rp bits.d32 hi ⟨eJ (i:=2) hb1,?_⟩⟩;have hlt:=HN hi bits.dp hp;have hsp1:=hsp.upd k1 fun _ h=>h.elim
  obtain⟨a,ha,_,hv⟩:=hsp1.at (Rx hi bits.dp hp);have hlen:=hsp.len;refine⟨by omega,a,ha,y.1,hv 0 _ rfl,y.2,hv 1 _ rfl,?_⟩;refine Dk (p:=y) b1' fun h2 b2 hu2=>⟨_,by rw[ci,bh b2];rfl,_,by rw[ci,bh b2];rfl,hk _ (k1.trans hu2 fun x hx=>.inr (eI hx.symm))⟩
theorem wA{W:Nat→Prop}{h:ad}{b:Nat}{s:Slots}(nd:NodeAt W h b s){i:Nat}(hi:i<32){K:Option Addr×Bool→ad→Prop}(hk:K ((s.k i).getD none,(s.k i).isSome) h):
  HC PG g5 [.pointer (some ⟨b,0,none⟩),.int .i64 i] [.c .ptr,.c .bool] K h:=by
 refine Ea _ i ?_;unfold xj ay cj cd bX iR pe kQ;obtain⟨d,n,sp,sk,ow,hb,bits,hsp,hsk,hcp,hck⟩:=nd.ex;refine Fa hb (Cl bits.n32 hi ?_);rw[bits.nk i hi];cases hp:s.k i with
 |none=>rw[hp]at hk;exact av.2 hk
 |some y=>
  rw[hp]at hk;refine aj.2 ⟨_,rfl,sk,eJ (i:=3) hb,_,rfl,_,eJ (i:=1) hb,rp bits.n32 hi ⟨eJ (i:=3) hb,?_⟩⟩;have hlt:=HN hi bits.nk hp;obtain⟨a,ha,_,hv⟩:=hsk.at (Rx hi bits.nk hp);have hlen:=hsk.len;exact⟨by omega,a,ha,y,hv 0 _ rfl,hk⟩
theorem sZ{W:Nat→Prop}{h:ad}{b d n:Nat}{sp sk:SliceV}{bu:Bool}{ow:Option Addr}{l:List Pr}(hb:h[b]? =some (.cells (fg d n sp sk bu ow) bD (0,0))) (hs:Sl eu 2 W h sp l) (hn:l.length≤1000000000) {K:SliceV→ad→Prop}
  (hk:∀s' h',OwnS eu 2 af (fun x=>h.size≤x) h' s' l→Upd No h h'→K s' h'):HC PG eW [.pointer (some ⟨b,0,none⟩)] [.c .slice] K h:=by
 refine ut _ ?_;unfold ql cd;exact aj.2 ⟨_,rfl,sp,eJ (i:=2) hb,vD hs (by omega) hk⟩
theorem OE{W:Nat→Prop}{h:ad}{b d n:Nat}{sp sk:SliceV}{bu:Bool}{ow:Option Addr}{l:List (Option Addr)}(hb:h[b]? =some (.cells (fg d n sp sk bu ow) bD (0,0))) (hs:Sl rH 1 W h sk l) (hn:l.length≤1000000000) {K:SliceV→ad→Prop}
  (hk:∀s' h',OwnS rH 1 bU (fun x=>h.size≤x) h' s' l→Upd No h h'→K s' h'):HC PG nD [.pointer (some ⟨b,0,none⟩)] [.c .slice] K h:=by
 refine vI _ ?_;unfold re cd;exact aj.2 ⟨_,rfl,sk,eJ (i:=3) hb,Ct hs (by omega) hk⟩
structure BuckAt(W:Nat→Prop)(h:ad)(b:Nat)(l:List Pr):Prop where
 ex:∃sp sk ow,h[b]? =some (.cells (fg 0 0 sp sk true ow) bD (0,0))∧Sl eu 2 W h sp l∧Sl rH 1 W h sk []∧sp.len≤sp.cap∧sk.len≤sk.cap
 nw:¬W b
theorem BuckAt.upd{W M:Nat→Prop}{h h':ad}{b:Nat}{l:List Pr}(n:BuckAt W h b l)(k:Upd M h h')(hm:∀b,M b→W b∨h.size≤b):BuckAt W h' b l:=by
 obtain⟨sp,sk,ow,h1,h3,h4,h5,h6⟩:=n.ex;exact⟨⟨sp,sk,ow,k.get h1 (fun hb=>(hm _ hb).elim n.nw fun h=>by have:=aO h1;omega),h3.upd k hm,h4.upd k hm,h5,h6⟩,n.nw⟩
theorem Rn{W:Nat→Prop}{h:ad}{b:Nat}{l:List Pr}(bk:BuckAt W h b l)(hr:bE l)(hn:l.length≤1000000000)(k:ByteArray){K:ByteArray×Bool→ad→Prop}
  (hk:∀h' v,Upd No h h'→(cx l k=true→(k,v)∈l)→(cx l k=false→v=⟨#[]⟩)→K (v,cx l k) h'):HC PG qZ [.pointer (some ⟨b,0,none⟩),.string k] [.c .str,.c .bool] K h:=by
 refine NO _ k ?_;unfold Gf cj aD qJ ja;obtain⟨sp,sk,ow,hb,hsp,hsk,hc1,hc2⟩:=bk.ex;refine sZ hb hsp hn fun s1 h1 ho1 hu1=>?_
 have hs1:Sl eu 2 No h1 s1 l:=ho1.sl fun _ _ _ h=>h
 refine IW hs1 hr hn k fun h2 hu2=>?_
 cases ht:cx l k with
 |false=>rw[ht]at hk;exact av.2 (hk _ _ (hu1.tr hu2) (fun h=>by cases h) fun _=>rfl)
 |true=>
  rw[ht]at hk;obtain⟨hlt,e⟩:=IE hr ht;obtain⟨a,ha,_,hv⟩:=(hs1.upd hu2 fun _ h=>h.elim).at (ai hlt)
  have hlen:=hs1.len;refine aj.2 ⟨by simp only;omega,a,ha,_,hv 1 _ rfl,hk _ _ (hu1.tr hu2) (fun _=>?_) fun h=>by cases h⟩
  have:(k,l[pg l k].2)=l[pg l k]:=Prod.ext e.symm rfl;rw[this];exact bN hlt
theorem TR{W:Nat→Prop}{h:ad}{b:Nat}{l:List Pr}(bk:BuckAt W h b l)(hr:bE l)(hn:l.length≤1000000000)(k:ByteArray){K:ByteArray×Bool→ad→Prop}
 (hk:∀h' v,Upd No h h'→(cx l k=true→(k,v)∈l)→K (v,cx l k) h'):HC PG qZ [.pointer (some ⟨b,0,none⟩),.string k] [.c .str,.c .bool] K h:=Rn bk hr hn k fun h' v h1 h2 _=>hk h' v h1 h2
end Go.Proofs
