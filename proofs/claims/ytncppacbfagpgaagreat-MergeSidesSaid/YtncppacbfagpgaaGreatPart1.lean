/- A part of the proof that the named laws of this program answer true, whatever the input. -/
import Derived.Test.YtncppacbfagpgaaGreatPart0
open BitVec renaming ofInt→ar,ofInt_natCast→nr,getLsbD_ofNat→ns
open Int renaming fdiv→dM,toNat_natCast→aV
open List renaming append_nil→aK,append_assoc→al,append_cancel_left→eW,mem_cons_self→ao,mem_cons→az,length→gq,length_append→ac,getElem_of_mem→bH,length_take→aO,length_drop→aR,take_append_drop→aY,pairwise_append→cd,getElem_mem→bM,mem_of_getElem→ox,pairwise_iff_getElem→cg,take_succ_cons→i5,length_cons→ak,drop_succ_cons→gN,replicate→kM,replicate_succ→ou,flatMap_cons→aI,flatten_append→ku,flatten_cons→gJ,flatten_nil→rq,getElem?_eq_getElem→ai,take_of_length_le→bm,range→ga,range_add→tZ,mem_range→gI,filterMap_append→qP,take_left'→cY,drop_left'→cI,drop_drop→dI
open Nat renaming le_refl→aq,zero_le→bC,le_trans→aZ,testBit_and→lZ,testBit_two_pow_sub_one→mB,shiftRight_eq_div_pow→g9,lt_of_le_of_lt→jy,min_eq_left→bD,shiftRight_le→qz,mod_eq_of_lt→ir,testBit_lt_two_pow→gG,lt_of_lt_of_le→aD,pow_le_pow_right→jZ,zero_add→aN,le_of_eq→eC
open Option renaming some→bO
open UInt8 renaming toNat_inj→o9,ofNat→gZ
namespace Go.Proofs
theorem OT{m n:Bn}(hb:Br (sw m.2.1 m.2.2))(h:∀k v,ve m k v→ve n k v):∃t,m.1=n.1++t:=by
 rcases hb with⟨v,hv⟩|⟨j,k,u,v,hj,hk,nj,nk,hne⟩
 ·obtain⟨r,e,_⟩:=h m.1 v ⟨[],(aK _).symm,hv⟩
  exact⟨r,e⟩
 ·obtain⟨r,e,_⟩:=h (m.1++j) u ⟨j,rfl,hj⟩
  obtain⟨s,f,_⟩:=h (m.1++k) v ⟨k,rfl,hk⟩;rcases List.append_eq_append_iff.1 e with⟨a,h1,h2⟩|⟨a,h1,h2⟩
  ·rw[h1,al]at f
   have f:=eW f;cases a with
   |nil=>exact⟨[],by rw[h1];simp⟩
   |cons x a=>
    rw[h2]at hne;rw[f]at hne;exact absurd rfl hne
  ·exact⟨a,h1⟩
theorem Nx:∀{F F':Fo},fK F→fK F'→(∀k v,qN F k v↔qN F' k v)→F=F'
 | .nil,.nil,_,_,_=>rfl
 | .nil,.cons lab w kids rest,_,h,he=>by
  obtain⟨r,v,hr⟩:=mZ h _ (ao ..);exact((he _ v).2 (fE.2 ⟨_,ao ..,r,rfl,hr⟩)).elim
 | .cons lab w kids rest,.nil,h,_,he=>by
  obtain⟨r,v,hr⟩:=mZ h _ (ao ..);exact((he _ v).1 (fE.2 ⟨_,ao ..,r,rfl,hr⟩)).elim
 | .cons lab w kids rest,.cons lab' w' kids' rest',h,h',he=>by
  have low:∀{lab w kids rest} {F:Fo},fK (.cons lab w kids rest)→fK F→(∀k v,qN F k v→qN (.cons lab w kids rest) k v)→∀n∈F.toL,hd lab≤hd n.1:=by
   intro lab w kids rest F h hF hi n hn;obtain⟨r,v,hr⟩:=mZ hF n hn;obtain⟨m,hm,e,_⟩:=q9 h (hi _ v (fE.2 ⟨n,hn,r,rfl,hr⟩));rw[pk ((dY.1 hF).2 n hn).1]at e;rcases az.1 hm with rfl|hm
   ·simp only at e;omega
   ·have:=h.2.2.2.1 m hm;omega
  have e1:=low h h' (fun k v=>(he k v).2) _ (ao ..)
  have e2:=low h' h (fun k v=>(he k v).1) _ (ao ..)
  simp only at e1 e2;have ehd:hd lab=hd lab':=by omega
  have nod:∀{lab w kids rest lab' w' kids' rest'},fK (.cons lab w kids rest)→fK (.cons lab' w' kids' rest')→hd lab=hd lab'→(∀k v,qN (.cons lab w kids rest) k v→qN (.cons lab' w' kids' rest') k v)→(∀k v,ve (lab,w,kids) k v→ve (lab',w',kids') k v)∧(∀k v,qN rest k v→qN rest' k v):=by
   intro lab w kids rest lab' w' kids' rest' h h' ehd hi;refine⟨fun k v hk=>?_,fun k v hk=>?_⟩
   ·obtain⟨n,hn,e,hr⟩:=q9 h' (hi k v (fE.2 ⟨_,ao ..,hk⟩))
    obtain⟨r,rfl,_⟩:=hk;rw[pk h.1]at e;rw[←wR h' hn (ao ..) (by simp only;omega)];exact hr
   ·obtain⟨m,hm,em,_⟩:=q9 h.2.2.2.2 hk
    have:=h.2.2.2.1 m hm;obtain⟨n,hn,e,hr⟩:=q9 h' (hi k v (Or.inr hk));rcases az.1 hn with rfl|hn
    ·simp only at e;omega
    ·exact fE.2 ⟨n,hn,hr⟩
  have⟨n1,r1⟩:=nod h h' ehd fun k v=>(he k v).1
  have⟨n2,r2⟩:=nod h' h ehd.symm fun k v=>(he k v).2
  have erest:rest=rest':=Nx h.2.2.2.2 h'.2.2.2.2 fun k v=>⟨r1 k v,r2 k v⟩
  obtain⟨t,ht⟩:=OT (m:=(lab,w,kids)) (n:=(lab',w',kids')) ((Jk h.2.2.1).1 h.2.1) n1;obtain⟨t',ht'⟩:=OT (m:=(lab',w',kids')) (n:=(lab,w,kids)) ((Jk h'.2.2.1).1 h'.2.1) n2;simp only at ht ht';have hlab:lab=lab':=by
   have:t= []:=by
    have h1:=congrArg gq ht;have h2:=congrArg gq ht';rw[ac]at h1 h2;exact List.length_eq_zero_iff.1 (by omega)
   rw[ht,this,aK]
  subst hlab;have inR:∀{w kids w' kids'},(∀k v,ve (lab,w,kids) k v→ve (lab,w',kids') k v)→∀k v,sw w kids k v→sw w' kids' k v:=by
   intro w kids w' kids' hn k v hk;obtain⟨r,e,hr⟩:=hn (lab++k) v ⟨k,rfl,hk⟩;rw[eW e];exact hr
  have i1:=inR n1;have i2:=inR n2;have ew:w=w':=by
   have wv:∀{w kids w' kids'},fK kids'→(∀k v,sw w kids k v→sw w' kids' k v)→∀v,w=some v→w'=some v:=by
    intro w kids w' kids' hc hi v hv;rcases hi [] v (.inl ⟨rfl,hv⟩)with⟨_,h⟩|h
    ·exact h
    ·exact absurd rfl (pj hc h)
   exact Option.ext fun v=>⟨wv h'.2.2.1 i1 v,wv h.2.2.1 i2 v⟩
  have kd:∀{w kids w' kids'},fK kids→(∀k v,sw w kids k v→sw w' kids' k v)→∀k v,qN kids k v→qN kids' k v:=by
   intro w kids w' kids' hc hi k v hk;rcases hi k v (.inr hk)with⟨e,_⟩|h
   ·exact absurd e (pj hc hk)
   ·exact h
  have ekids:kids=kids':=Nx h.2.2.1 h'.2.2.1 fun k v=>⟨kd h.2.2.1 i1 k v,kd h'.2.2.1 i2 k v⟩
  rw[ew,ekids,erest]
def vd(P P':List UInt8→ByteArray→Prop)(k:List UInt8)(v:ByteArray):Prop:=∀k' v',P' k' v'↔(k'=k∧v'=v)∨(k'≠k∧P k' v')
theorem Hm{w:Option ByteArray}{F:Fo}(h:fK F)(v:ByteArray):vd (sw w F) (sw (some v) F) [] v:=by
 intro k' v';unfold sw;constructor
 ·rintro(⟨e,f⟩|hi)
  ·exact .inl ⟨e,(bO.inj f).symm⟩
  ·exact .inr ⟨pj h hi,.inr hi⟩
 ·rintro(⟨e,f⟩|⟨e,⟨f,_⟩|hi⟩)
  ·exact .inl ⟨e,by rw[f]⟩
  ·exact absurd f e
  ·exact .inr hi
theorem Cb{w:Option ByteArray}{F F':Fo}{k:List UInt8}{v:ByteArray}(hk:k≠[])(h:vd (qN F) (qN F') k v):vd (sw w F) (sw w F') k v:=by
 intro k' v';unfold sw;rw[h k' v'];constructor
 ·rintro(⟨e,f⟩|hi|hi)
  ·exact .inr ⟨fun e'=>hk (e'.symm.trans e),.inl ⟨e,f⟩⟩
  ·exact .inl hi
  ·exact .inr ⟨hi.1,.inr hi.2⟩
 ·rintro(hi|⟨e,hi|hi⟩)
  ·exact .inr (.inl hi)
  ·exact .inl hi
  ·exact .inr (.inr ⟨e,hi⟩)
theorem PC{F:Fo}{k:List UInt8}{v:ByteArray}{i:Nat}(h:fK F)(hk:k≠[])(hi:∀j (hj:j<F.toL.length),j<i→hd F.toL[j].1<hd k)(hi':∀j (hj:j<F.toL.length),i≤j→hd k<hd F.toL[j].1):fK (.ofL (F.toL.take i++(k,some v,.nil)::F.toL.drop i))∧vd (qN F) (qN (.ofL (F.toL.take i++(k,some v,.nil)::F.toL.drop i))) k v:=by
 have hc:=dY.1 h;have t1:∀n∈F.toL.take i,hd n.1<hd k:=fun n hn=>by
  obtain⟨j,hj,e⟩:=bH hn;rw[aO]at hj;rw[←e,List.getElem_take];exact hi j (by omega) (by omega)
 have t2:∀n∈F.toL.drop i,hd k<hd n.1:=fun n hn=>by
  obtain⟨j,hj,e⟩:=bH hn;rw[aR]at hj;rw[←e,List.getElem_drop];exact hi' _ (by omega) (by omega)
 have mem:∀n,n∈F.toL.take i++(k,some v,.nil)::F.toL.drop i↔n=(k,some v,Fo.nil)∨n∈F.toL:=fun n=>by
  conv=>rhs;rw[←aY i F.toL]
  simp only[List.mem_append,az];exact⟨fun h=>h.elim (fun h=>.inr (.inl h)) fun h=>h.elim .inl fun h=>.inr (.inr h),fun h=>h.elim (fun h=>.inr (.inl h)) fun h=>h.elim .inl fun h=>.inr (.inr h)⟩
 refine⟨dY.2 ⟨?_,?_⟩,fun k' v'=>?_⟩
 ·rw[Fo.to_of]
  have hp:=hc.1;rw[←aY i F.toL,cd]at hp;refine cd.2 ⟨hp.1,List.pairwise_cons.2 ⟨t2,hp.2.1⟩,fun a ha b hb=>?_⟩
  rcases az.1 hb with rfl|hb
  ·exact t1 a ha
  ·exact hp.2.2 a ha b hb
 ·rw[Fo.to_of]
  intro n hn;rcases(mem n).1 hn with rfl|hn
  ·exact⟨hk,.inl rfl,trivial⟩
  ·exact hc.2 n hn
 ·rw[fE,fE,Fo.to_of]
  constructor
  ·rintro⟨n,hn,r,e,hr⟩
   rcases(mem n).1 hn with rfl|hn
   ·rcases hr with⟨rfl,f⟩|f
    ·exact .inl ⟨by rw[e];exact aK _,(bO.inj f).symm⟩
    ·exact f.elim
   ·right
    refine⟨fun e'=>?_,n,hn,r,e,hr⟩
    have e2:hd k=hd n.1:=by rw[←e',e,pk (hc.2 n hn).1]
    obtain⟨j,hj,ej⟩:=bH hn;rcases Nat.lt_or_ge j i with h1|h1
    ·have:=hi j hj h1;rw[ej]at this;omega
    ·have:=hi' j hj h1;rw[ej]at this;omega
  ·rintro(⟨rfl,rfl⟩|⟨_,n,hn,h⟩)
   ·exact⟨(k',some v',.nil),(mem _).2 (.inl rfl),[],(aK _).symm,.inl ⟨rfl,rfl⟩⟩
   ·exact⟨n,(mem _).2 (.inr hn),h⟩
theorem mW{α:Type}{l:List α}{i:Nat}(hi:i<l.length){a x:α}(nd:∀j (hj:j<l.length),j≠i→l[j]≠l[i]):x∈l.set i a↔x=a∨(x∈l∧x≠l[i]):=by
 constructor
 ·intro h
  obtain⟨j,hj,e⟩:=bH h;rw[List.length_set]at hj;rw[List.getElem_set]at e;split at e
  ·exact .inl e.symm
  ·rename_i hne
   exact .inr ⟨by rw[←e];exact bM hj,by rw[←e];exact nd j hj fun e=>hne e.symm⟩
 ·rintro(rfl|⟨h,hne⟩)
  ·exact ox (i:=i) (h:=by simpa using hi) (by simp)
  ·obtain⟨j,hj,e⟩:=bH h
   have:i≠j:=by rintro rfl;exact hne e.symm
   exact ox (i:=j) (h:=by simpa using hj) (by rw[List.getElem_set_ne this];exact e)
theorem O4{F:Fo}{i:Nat}{m:Bn}(h:fK F)(hi:i<F.toL.length)(hm:Qm m)(e:hd m.1=hd F.toL[i].1):fK (.ofL (F.toL.set i m)):=by
 have hc:=dY.1 h;rw[dY,Fo.to_of];refine⟨?_,fun n hn=>?_⟩
 ·rw[cg]at hc⊢
  intro a b ha hb hab;rw[List.length_set]at ha hb;rw[List.getElem_set,List.getElem_set];split
  ·rename_i ea;subst ea
   rw[if_neg (by omega),e];exact hc.1 _ _ ha hb hab
  ·split
   ·rename_i eb;subst eb
    rw[e];exact hc.1 _ _ ha hb hab
   ·exact hc.1 _ _ ha hb hab
 ·rcases List.mem_or_eq_of_mem_set hn with hn|rfl
  ·exact hc.2 n hn
  ·exact hm
theorem wy{F:Fo}(h:fK F){i:Nat}(hi:i<F.toL.length)(j:Nat)(hj:j<F.toL.length)(hne:j≠i):F.toL[j]≠F.toL[i]:=by
 have hc:=(dY.1 h).1;rw[cg]at hc;intro e;rcases Nat.lt_or_gt_of_ne hne with hl|hl
 ·have:=hc j i hj hi hl;rw[e]at this;omega
 ·have:=hc i j hi hj hl;rw[e]at this;omega
theorem Kt{F:Fo}{i:Nat}{m:Bn}{k:List UInt8}{v:ByteArray}(h:fK F)(hi:i<F.toL.length)(ek:hd F.toL[i].1=hd k)(hp:vd (ve F.toL[i]) (ve m) k v):vd (qN F) (qN (.ofL (F.toL.set i m))) k v:=by
 intro k' v';have hc:=dY.1 h;rw[fE,fE,Fo.to_of];constructor
 ·rintro⟨n,hn,hr⟩
  rcases(mW hi (wy h hi)).1 hn with rfl|⟨hn,hne⟩
  ·rcases(hp k' v').1 hr with h1|⟨h1,h2⟩
   ·exact .inl h1
   ·exact .inr ⟨h1,_,bM hi,h2⟩
  ·refine .inr ⟨fun e=>hne ?_,n,hn,hr⟩
   obtain⟨r,e',_⟩:=hr;refine wR h hn (bM hi) ?_;rw[ek,←e,e',pk (hc.2 n hn).1]
 ·rintro(h1|⟨h1,n,hn,hr⟩)
  ·exact⟨m,(mW hi (wy h hi)).2 (.inl rfl),(hp k' v').2 (.inl h1)⟩
  ·by_cases e:n=F.toL[i]
   ·exact⟨m,(mW hi (wy h hi)).2 (.inl rfl),(hp k' v').2 (.inr ⟨h1,by rw[←e];exact hr⟩)⟩
   ·exact⟨n,(mW hi (wy h hi)).2 (.inr ⟨hn,e⟩),hr⟩
theorem PB{lab r:List UInt8}{w w':Option ByteArray}{F F':Fo}{v:ByteArray}(h:vd (sw w F) (sw w' F') r v):vd (ve (lab,w,F)) (ve (lab,w',F')) (lab++r) v:=by
 intro k' v';constructor
 ·rintro⟨s,e,hs⟩
  rcases(h s v').1 hs with⟨rfl,rfl⟩|⟨h1,h2⟩
  ·exact .inl ⟨e,rfl⟩
  ·exact .inr ⟨fun e'=>h1 (eW (e.symm.trans e')),s,e,h2⟩
 ·rintro(⟨rfl,rfl⟩|⟨h1,s,e,hs⟩)
  ·exact⟨r,rfl,(h r v').2 (.inl ⟨rfl,rfl⟩)⟩
  ·exact⟨s,e,(h s v').2 (.inr ⟨fun e'=>h1 (by rw[e,e']),hs⟩)⟩
def cm:List UInt8→List UInt8→Nat
 |a::x,b::y=>if a=b then cm x y+1 else 0
 |_,_=>0
theorem Uc:∀(x y:List UInt8),cm x y≤x.length∧cm x y≤y.length
 | [],_=>by simp[cm]
 |_::_,[]=>by simp[cm]
 |a::x,b::y=>by unfold cm;have:=Uc x y;split<;>simp<;>omega
theorem O2:∀(x y:List UInt8),x.take (cm x y)=y.take (cm x y)
 | [],_=>by simp[cm]
 |_::_,[]=>by simp[cm]
 |a::x,b::y=>by
  unfold cm;split
  ·rename_i e;rw[i5,i5,O2 x y,e]
  ·simp
theorem O3:∀(x y:List UInt8),cm x y<x.length→cm x y<y.length→hd (x.drop (cm x y))≠hd (y.drop (cm x y))
 | [],_=>by simp[cm]
 |_::_,[]=>by simp[cm]
 |a::x,b::y=>by
  unfold cm;split
  ·rename_i e
   intro h1 h2;rw[ak]at h1 h2;rw[gN,gN];exact O3 x y (by omega) (by omega)
  ·rename_i e
   intro _ _ h;exact e (o9.1 h)
theorem UR{x y:List UInt8}(hx:x≠[])(hy:y≠[])(h:hd x=hd y):0<cm x y:=by
 match x,y,hx,hy with
 |a::x,b::y,_,_=>
  unfold cm;rw[if_pos (show a=b from o9.1 h)]
  omega
theorem HJ{lab:List UInt8}{w:Option ByteArray}{F:Fo}(c:Nat):∀k v,ve (lab.take c,none,.cons (lab.drop c) w F .nil) k v↔ve (lab,w,F) k v:=by
 intro k v;constructor
 ·rintro⟨r,e,⟨_,h⟩|(⟨s,rfl,h⟩|h)⟩
  ·cases h
  ·exact⟨s,by rw[e];simp only;rw[←al,aY],h⟩
  ·exact h.elim
 ·rintro⟨s,e,h⟩
  exact⟨lab.drop c++s,by rw[e];simp only;rw[←al,aY],.inr (.inl ⟨s,rfl,h⟩)⟩
theorem RZ{lab r:List UInt8}{w w':Option ByteArray}{F F':Fo}{v:ByteArray}(hl:lab≠[])(hb:w.isSome∨2≤F.toL.length)(hF:fK F)(hne:r≠[]→hd r≠hd lab)(h:vd (sw none (.cons lab w F .nil)) (sw w' F') r v):Br (sw w' F'):=by
 by_cases e:r= []
 ·subst e
  exact .inl ⟨v,(h [] v).2 (.inl ⟨rfl,rfl⟩)⟩
 ·have hc:fK (.cons lab w F .nil):=⟨hl,hb,hF,fun n hn=>by simp[Fo.toL]at hn,trivial⟩
  obtain⟨s,u,hs⟩:=mZ hc _ (ao ..);simp only at hs;have e2:hd (lab++s)=hd lab:=pk hl;refine .inr ⟨r,lab++s,v,u,(h r v).2 (.inl ⟨rfl,rfl⟩),(h _ u).2 (.inr ⟨fun e'=>hne e (by rw[←e',e2]),.inr (.inl ⟨s,rfl,hs⟩)⟩),e,fun e'=>hl (List.append_eq_nil_iff.1 e').1,by rw[e2];exact hne e⟩
theorem TJ{P P':List UInt8→ByteArray→Prop}{k:List UInt8}{v:ByteArray}(hb:Br P)(h:vd P P' k v):Br P':=by
 have keep:∀j u,P j u→∃u',P' j u':=fun j u hj=>by
  by_cases e:j=k
  ·exact⟨v,(h j v).2 (.inl ⟨e,rfl⟩)⟩
  ·exact⟨u,(h j u).2 (.inr ⟨e,hj⟩)⟩
 rcases hb with⟨u,hu⟩|⟨j,k',u,u',hj,hk,r⟩
 ·obtain⟨u',h'⟩:=keep [] u hu
  exact .inl ⟨u',h'⟩
 ·obtain⟨a,ha⟩:=keep j u hj
  obtain⟨b,hb⟩:=keep k' u' hk;exact .inr ⟨j,k',a,b,ha,hb,r⟩
end Go.Proofs
namespace Go.Proofs
open Go.Lift
theorem OwnS.zero{α:Type}{f:α→List Value}{sz:Nat}{t:TypeId}{M:Nat→Prop}{h:ad}{s:SliceV}{xs:List α}(hs:OwnS f sz t M h s xs):OwnS f sz t M h ⟨aU s.a 0 s.cap sz,0-0,s.cap-0⟩ []:=by
 have hf:∀x,(f x).length=sz∧0<sz:=hs.ne;have hlen:=hs.len;have hcap:=hs.cap;refine⟨rfl,hf,by simp only;omega,?_⟩
 rcases hs.blk with h0|⟨b,rest,ha,hb,hc,hr⟩
 ·exact .inl (by simp only;omega)
 ·refine .inr ⟨b,xs.flatMap f++rest,by rw[ha,sub_zero],hb,hc,?_⟩
  rw[ac,lw hf,hr,←Nat.add_mul];simp only;congr 1;omega
def L3:Pr:=(⟨#[]⟩,⟨#[]⟩)
theorem N6(n:Nat):dJ n [.string (⟨#[]⟩:ByteArray),.string (⟨#[]⟩:ByteArray)]=(kM n L3).flatMap eh:=by
 unfold dJ;induction n with
 |zero=>rfl
 |succ n ih=>rw[ou,ou,aI,←ih];rfl
theorem Ty{n:Nat}(hn:n*32≤140737488355328){h:ad}{K:SliceV→ad→Prop}(hk:∀s' h',OwnS eh 2 af (fun b=>h.size≤b) h' s' []→Upd No h h'→K s' h'):
  HC PG fR [.slice none 0 0,.int .i64 n] [.c .slice] K h:=by
 refine oK ⟨none,0,0⟩ n ?_;unfold jj oT;have e:IntKind.wrap .i64 ((n:Int)-IntKind.wrap .i64 (((0:Nat):Int)-((0:Nat):Int)))=(n:Int):=by rw[dU (x:=((0:Nat):Int)-((0:Nat):Int)) (by omega),dU (by omega)];omega
 refine Join.plain (aB (fun h=>by omega) fun _=>?_)
 simp only[Bd];rw[e];refine aB (fun hp=>?_) fun hz=>hk _ _ (OwnS.nil f9) (Upd.refl _ _)
 refine⟨by omega,⟨by omega,by omega,by omega,by omega⟩,?_⟩
 refine AppP.own (f:=eh) (M:=fun b=>h.size≤b) (xs:= []) (ys:=kM n L3) (OwnS.nil f9) (by simp) (N6 _) (by rw[N6];exact ww _) rfl (by omega) (by simpa using hn) (aq _) fun s' h' ho hu=>?_
 exact⟨by omega,hk _ _ (OwnS.zero ho) (hu.mono fun b hb=>.inr hb)⟩
abbrev V0(s:SliceV):List Value:= [.slice s.a s.len s.cap]
def ParS(h:ad):List SliceV→List (List Pr)→Prop
 | [],[]=>True
 |v::vs,l::ls=>Sl eh 2 No h v l∧ParS h vs ls
 |_,_=>False
theorem ParS.upd{h h':ad}(k:Upd No h h'):∀{vs:List SliceV} {ls:List (List Pr)},ParS h vs ls→ParS h' vs ls
 | [],[],_=>trivial
 |_::_,_::_,q=>⟨q.1.upd k fun _ h=>h.elim,ParS.upd k q.2⟩
 | [],_::_,q=>q.elim
 |_::_,[],q=>q.elim
theorem ParS.len{h:ad}:∀{vs:List SliceV} {ls:List (List Pr)},ParS h vs ls→vs.length=ls.length
 | [],[],_=>rfl
 |_::_,_::_,q=>by rw[ak,ak,ParS.len q.2]
 | [],_::_,q=>q.elim
 |_::_,[],q=>q.elim
theorem ParS.at{h:ad}:∀{vs:List SliceV} {ls:List (List Pr)},ParS h vs ls→∀{i:Nat} (h1:i<vs.length) (h2:i<ls.length),Sl eh 2 No h vs[i] ls[i]
 |_::_,_::_,q,0,_,_=>q.1
 |_::_,_::_,q,i+1,h1,h2=>ParS.at q.2 (by simpa using h1) (by simpa using h2)
theorem HR(ls:List (List Pr)){i:Nat}(hi:i<ls.length):(ls.take (i+1)).flatten=(ls.take i).flatten++ls[i]:=by
 rw[List.take_succ_eq_append_getElem hi,ku,gJ,rq,aK]
theorem OW(ls:List (List Pr))(i:Nat):(ls.take i).flatten.length≤ls.flatten.length:=by
 have:ls.flatten=(ls.take i).flatten++(ls.drop i).flatten:=by rw[←ku,aY]
 rw[this,ac];omega
theorem HW{h:ad}{s:SliceV}{vs:List SliceV}{ls:List (List Pr)}(hs:Sl V0 1 No h s vs)(hp:ParS h vs ls)(hn:ls.flatten.length*32≤140737488355328)(hv:vs.length≤1000)
  {K:SliceV→ad→Prop}(hk:∀s' h',OwnS eh 2 af (fun b=>h.size≤b) h' s' ls.flatten→Upd No h h'→K s' h'):HC PG dL [.slice s.a s.len s.cap] [.c .slice] K h:=by
 refine nQ s ?_;unfold iR aL bZ oT;have hlen:=hs.len;have hpl:=hp.len;refine LoopP.ghost (fun(i:Nat) (t:Int×Int) h'=>t.2=(i:Int)∧i≤vs.length∧t.1=((ls.take i).flatten.length:Int)∧h'=h) (fun i=>vs.length-i) 0 ⟨rfl,bC _,by simp,rfl⟩ ?_
 rintro I i ⟨tz,ti⟩ h' ⟨e1,hi,e2,rfl⟩ hI;simp only at e1 e2;subst e1 e2;refine aB (fun hlt=>?_) fun hge=>?_
 ·have hlt:i<vs.length:=by have:(i:Int)<(s.len:Int):=hlt;omega
  obtain⟨a,ha,_,hv'⟩:=hs.at (ai hlt);have hvl:=(hp.at hlt (hpl▸hlt)).len;have hft:=congrArg gq (HR ls (hpl▸hlt));rw[ac]at hft;have hfl:=OW ls (i+1);refine Join.plain ⟨by simp only;omega,a,ha,_,hv' 0 _ rfl,?_⟩;simp only;have ew:IntKind.wrap .i64 (((ls.take i).flatten.length:Int)+((vs[i]).len:Int))=((ls.take (i+1)).flatten.length:Int):=by rw[dU (by omega)];omega
  rw[ew];refine aB (fun h=>by omega) fun _=>?_
  rw[ic hlt (by omega)];exact hI (i+1) _ _ ⟨rfl,hlt,rfl,rfl⟩ (by omega)
 ·have hil:i=vs.length:=by have:¬(i:Int)<(s.len:Int):=hge;omega
  rw[bm (by omega)];refine Ty hn fun s0 h0 ho0 hu0=>?_
  refine LoopP.ghost (fun(i:Nat) (t:SliceV×Int) h1=>t.2=(i:Int)∧i≤vs.length∧OwnS eh 2 af (fun b=>h'.size≤b) h1 t.1 (ls.take i).flatten∧Upd No h' h1) (fun i=>vs.length-i) 0 ⟨rfl,bC _,by simpa using ho0,hu0⟩ ?_
  rintro I2 j ⟨sj,tj⟩ h1 ⟨e1,hj,ho,hu⟩ hI2;simp only at e1 ho;subst e1;refine aB (fun hlt=>?_) fun hge2=>?_
  ·have hlt:j<vs.length:=by have:(j:Int)<(s.len:Int):=hlt;omega
   obtain⟨a,ha,_,hv'⟩:=(hs.upd hu fun _ h=>h.elim).at (ai hlt)
   have hvj:=((hp.upd hu).at hlt (hpl▸hlt));have hft:=HR ls (hpl▸hlt);have hft2:=congrArg gq hft;rw[ac]at hft2;have hfl:=OW ls (j+1);refine Join.plain ⟨by simp only;omega,a,ha,_,hv' 0 _ rfl,_,hvj.srow,?_⟩;refine AppP.own (ys:=ls[j]) ho hvj.len rfl (ww _) rfl (by omega) (by omega) hu.size fun s2 h2 ho2 hu2=>?_
   simp only;rw[ic hlt (by omega)];exact hI2 (j+1) _ _ ⟨rfl,hlt,hft▸ho2,hu.trans hu2 fun b hb=>.inr hb⟩ (by omega)
  ·have hjl:j=vs.length:=by have:¬(j:Int)<(s.len:Int):=hge2;omega
   rw[bm (by omega)]at ho;exact hk _ _ ho hu
def GA(l:List Pr)(p:Pr):List Pr:=l.take (pg l p.1)++p::l.drop (if cp l p.1 then pg l p.1+1 else pg l p.1)
def PY(l:List Pr)(k:ByteArray):List Pr:=if cp l k then l.take (pg l k)++l.drop (pg l k+1)else l
theorem IK{l:List Pr}(hr:bj l){k:ByteArray}(ht:cp l k=true):∃h:pg l k<l.length,l[pg l k].1=k:=by
 unfold cp at ht;obtain⟨p,hp,e⟩:=List.any_eq_true.1 ht;have e:=of_decide_eq_true e;obtain⟨q,hq,rfl⟩:=List.mem_iff_getElem.1 hp;have:pg l k=q:=Rg (by omega) (fun j hj hjq=>by rw[←e];exact cg.1 hr j q hj hq hjq) fun h=>by rw[←e];exact bS _
 subst this;exact⟨hq,e⟩
theorem Iw{h:ad}{s:SliceV}{l:List Pr}(hs:Sl eh 2 No h s l){i j m:Nat}(h1:i≤j)(h2:j≤l.length)(h3:j≤m)(c:Nat):Sl eh 2 No h ⟨aU s.a i m 2,j-i,c⟩ ((l.drop i).take (j-i)):=Sl.sub hs h1 h2 h3
theorem MS{h:ad}{s:SliceV}{l:List Pr}(hs:Sl eh 2 No h s l)(hc:s.len≤s.cap)(hr:bj l)(hn:l.length≤1000000000)(p:Pr)
  {K:SliceV→ad→Prop}(hk:∀s' h',OwnS eh 2 af (fun b=>h.size≤b) h' s' (GA l p)→Upd No h h'→K s' h'):HC PG zO [.slice s.a s.len s.cap,.agg #[.string p.1,.string p.2]] [.c .slice] K h:=by
 refine NS s p ?_;unfold Gb jG av vo qQ iV;have hlen:=hs.len;have k1:=Upd.hnew No h [.string p.1,.string p.2] af;have b1:=bU h [.string p.1,.string p.2] af;refine bq ?_;simp only[cF h];generalize hnew h [.string p.1,.string p.2] af=h1 at k1 b1;refine⟨p.1,by rw[ce,bf b1];rfl,Ja (hs.upd k1 fun _ h=>h.elim) hr hn p.1 fun h2 hu2=>?_⟩
 have hp:=Rh l p.1;have hu02:=k1.tr hu2;refine⟨by simp only;omega,?_⟩;let q:=if cp l p.1 then pg l p.1+1 else pg l p.1
 have hq:q≤l.length:=by
  show(if cp l p.1 then pg l p.1+1 else pg l p.1)≤l.length
  split
  ·rename_i ht;obtain⟨h,_⟩:=IK hr ht;omega
  ·exact hp
 refine Join.intro (fun t h'=>h'=h2∧t=⟨aU s.a q s.cap 2,s.len-q,s.cap-q⟩) (fun R hR=>?_) ?_
 ·refine CondP.intro (fun e=>?_) fun e=>hR _ _ ⟨rfl,?_⟩
  ·have e:cp l p.1=true:=e
   obtain⟨hlt,_⟩:=IK hr e;have ew:IntKind.wrap .i64 ((pg l p.1:Int)+1)=((pg l p.1+1:Nat):Int):=by rw[dU (by omega)];omega
   simp only;rw[ew];refine⟨by omega,hR _ _ ⟨rfl,?_⟩⟩;have:q=pg l p.1+1:=by show(if cp l p.1 then _ else _)=_;rw[if_pos e]
   rw[this];rfl
  ·have e:cp l p.1=false:=e
   have:q=pg l p.1:=by show(if cp l p.1 then _ else _)=_;rw[if_neg (by rw[e];decide)]
   rw[this];rfl
 ·rintro t h' ⟨rfl,rfl⟩
  have b2:=hu2.get0 b1;refine⟨by simp only;omega,p.1,by rw[ce,bf b2];rfl,p.2,by rw[ce,bf b2];rfl,?_⟩
  have k3:=Upd.hnew No h' [.string p.1,.string p.2] af;have b3:=bU h' [.string p.1,.string p.2] af;refine bq ?_;simp only[cF h'];generalize hnew h' [.string p.1,.string p.2] af=h3 at k3 b3;refine bq ?_;have hs2:=(hs.upd hu02 fun _ h=>h.elim).upd k3 fun _ h=>h.elim
  have k4:=Upd.hnew No h3 [.slice (aU s.a 0 s.cap 2) ((pg l p.1:Int).toNat-0) (s.cap-0),.slice (some ⟨h'.size,0,none⟩) 1 1,.slice (aU s.a q s.cap 2) (s.len-q) (s.cap-q)] cx;have b4:=bU h3 [.slice (aU s.a 0 s.cap 2) ((pg l p.1:Int).toNat-0) (s.cap-0),.slice (some ⟨h'.size,0,none⟩) 1 1,.slice (aU s.a q s.cap 2) (s.len-q) (s.cap-q)] cx;have hA:=Iw hs2 (i:=0) (j:=pg l p.1) (m:=s.cap) (bC _) hp (by omega) (s.cap-0)
  have hB:Sl eh 2 No h3 ⟨some ⟨h'.size,0,none⟩,1,1⟩ [p]:=⟨rfl,f9,fun _=>⟨_,rfl,fun h=>h.elim,oV b3 fun i v hv=>by simpa using hv⟩⟩
  have hC:=Iw hs2 (i:=q) (j:=l.length) (m:=s.cap) hq (aq _) (by omega) (s.cap-q);rw[←hlen]at hC;rw[List.drop_zero]at hA;rw[bm (by rw[aR];omega)]at hC;have e0:GA l p= [l.take (pg l p.1-0),[p],l.drop q].flatten:=by simp[GA,q]
  refine HW (s:=⟨some (aj h3),3,3⟩) (vs:= [⟨aU s.a 0 s.cap 2,(pg l p.1:Int).toNat-0,s.cap-0⟩,⟨some ⟨h'.size,0,none⟩,1,1⟩,⟨aU s.a q s.cap 2,s.len-q,s.cap-q⟩]) (ls:= [l.take (pg l p.1-0),[p],l.drop q])
   ⟨rfl,fun x=>⟨rfl,Nat.one_pos⟩,fun _=>⟨_,rfl,fun h=>h.elim,oV b4 fun i v hv=>by simpa[V0]using hv⟩⟩ ⟨hA.upd k4 fun _ h=>h.elim,hB.upd k4 fun _ h=>h.elim,hC.upd k4 fun _ h=>h.elim,trivial⟩ ?_ (by simp) fun s5 h5 ho5 hu5=>?_
  ·simp only[gJ,rq,ac,aO,aR,List.length_singleton,List.length_nil];omega
  ·rw[←e0]at ho5
   have hu:=((hu02.tr k3).tr k4);exact hk _ _ (ho5.more fun b hb=>aZ hu.size hb) (hu.tr hu5)
end Go.Proofs
namespace Go.Proofs
open Go.Lift
def wg(n d:Nat):Nat:=(ga n).countP (d.testBit ·)
theorem Er(m n d:Nat):wg (m+n) d=wg m d+wg n (d>>>m):=by
 unfold wg;rw[tZ,List.countP_append,List.countP_map];congr 1
 refine List.countP_congr fun i _=>?_
 simp[Nat.testBit_shiftRight]
theorem O1(d:Nat)(i:Nat):∀n,i≤n→wg n (d&&&(2^i-1))=wg i d:=by
 intro n hn;obtain⟨m,rfl⟩:=Nat.exists_eq_add_of_le hn;rw[Er];have e1:wg i (d&&&(2^i-1))=wg i d:=by
  unfold wg;refine List.countP_congr fun j hj=>?_
  have:=gI.1 hj;simp[lZ,mB,this]
 have e2:wg m ((d&&&(2^i-1))>>>i)=0:=by
  unfold wg;rw[List.countP_eq_zero];intro j _;simp[Nat.testBit_shiftRight,lZ,mB];intro h;omega
 omega
theorem UQ(d:Nat):wg 8 (d&&&255)=wg 8 d:=O1 d 8 8 (aq _)
theorem zT(n d:Nat):wg n d≤n:=by
 have:=List.countP_le_length (p:=(d.testBit ·)) (l:=ga n)
 simpa[wg]using this
theorem m9(d n:Nat):dM (d:Int) (2^n)=((d>>>n:Nat):Int):=by
 rw[Int.fdiv_eq_ediv_of_nonneg _ (by exact Int.le_of_lt (Int.pow_pos (by decide))),g9];simp
theorem Sk(a b:Nat):(ar (IntKind.bits .u32) (a:Int)&&&ar (IntKind.bits .u32) (b:Int)).toNat=(a%4294967296)&&&(b%4294967296):=by
 simp[IntKind.bits,BitVec.toNat_and,BitVec.toNat_ofInt];rfl
theorem Aj{n:Nat}(h:n<4294967296):IntKind.wrap .u32 (n:Int)=(n:Int):=Go.IntWalk.u32_in _ (by omega)
theorem E4{i:Nat}(hi:i<32){h:ad}{K:Bool→ad→Prop}(hk:K true h):HC PG oE [.int .i64 i] [.c .bool] K h:=by
 refine GS i ?_;unfold ze;refine aB (fun _=>?_) fun h=>absurd (Int.natCast_nonneg i) h
 rw[decide_eq_true (by omega)];exact hk
theorem Jp{a b:Nat}(h:b<4294967296):a&&&b<4294967296:=jy Nat.and_le_right h
theorem Ci{d i:Nat}(hd:d<4294967296)(hi:i<32){h:ad}{K:Bool→ad→Prop}(hk:K (d.testBit i) h):HC PG gi [.int .u32 d,.int .i64 i] [.c .bool] K h:=by
 refine CO d i ?_;unfold vY;refine E4 hi (ax.2 ⟨by omega,?_⟩);have e:min (i:Int).toNat (IntKind.bits .u32)=i:=by rw[aV];exact bD (by show i≤32;omega)
 rw[e,m9];have e2:=Sk (d>>>i) 1;have hlt:d>>>i<4294967296:=jy (qz d i) hd;rw[ir hlt,show(1:Nat)%4294967296=1 from rfl]at e2
 simp only[Bd];rw[show((1:Nat):Int)=(1:Int)from rfl]at e2
 rw[e2,Aj (Jp (by omega))];have e3:(((d>>>i&&&1:Nat):Int)==(1:Int))=d.testBit i:=by
  rw[Bool.eq_iff_iff,beq_iff_eq,Nat.testBit,Nat.and_comm];simp only[bne_iff_ne,ne_eq,Nat.one_and_eq_mod_two];have:(d>>>i)%2<2:=Nat.mod_lt _ (by omega);omega
 rw[e3];exact hk
theorem Qa{d i:Nat}(hd:d<4294967296)(hi:i<32):∃w:Nat,IntKind.wrap .u32 (ar (IntKind.bits .u32) (d:Int)|||ar (IntKind.bits .u32) (IntKind.wrap .u32 (1*2^(min (i:Int).toNat (IntKind.bits .u32))))).toNat=(w:Int)∧w<4294967296∧∀j,w.testBit j=(d.testBit j||decide (j=i)):=by
 have e:min (i:Int).toNat (IntKind.bits .u32)=i:=by rw[aV];exact bD (by show i≤32;omega)
 have hp:2^i<4294967296:=Nat.pow_lt_pow_right (by omega) (show i<32 from hi)
 have e2:(1*2^i:Int)=((2^i:Nat):Int):=by simp
 rw[e,e2,Aj hp];refine⟨_,Aj (BitVec.isLt _),BitVec.isLt _,fun j=>?_⟩
 rw[BitVec.testBit_toNat,BitVec.getLsbD_or,nr,nr,ns,ns,Nat.testBit_two_pow];by_cases hj:j<32
 ·have:decide (j<IntKind.bits .u32)=true:=decide_eq_true hj
  rw[this];simp[eq_comm]
 ·have h1:decide (j<IntKind.bits .u32)=false:=decide_eq_false hj
  have h2:d.testBit j=false:=gG (aD hd (jZ (n:=2) (by omega) (show 32≤j by omega)))
  rw[h1,h2];simp;omega
theorem Ob{d i:Nat}(hd:d<4294967296)(hi:i<32){h:ad}{K:Int→ad→Prop}(hk:∀w:Nat,w<4294967296→(∀j,w.testBit j=(d.testBit j||decide (j=i)))→K (w:Int) h):HC PG fH [.int .u32 d,.int .i64 i] [.c (.int .u32)] K h:=by
 refine Bs d i ?_;unfold uQ;refine E4 hi (ag.2 ⟨by omega,?_⟩);obtain⟨w,e,h1,h2⟩:=Qa hd hi;simp only[Bd];rw[e];exact hk w h1 h2
theorem Jl{d i:Nat}(hd:d<4294967296)(hi:i<32):∃w:Nat,IntKind.wrap .u32 (ar (IntKind.bits .u32) (d:Int)&&& ~~~ar (IntKind.bits .u32) (IntKind.wrap .u32 (1*2^(min (i:Int).toNat (IntKind.bits .u32))))).toNat=(w:Int)∧w<4294967296∧∀j,w.testBit j=(d.testBit j&&decide (j≠i)):=by
 have e:min (i:Int).toNat (IntKind.bits .u32)=i:=by rw[aV];exact bD (by show i≤32;omega)
 have hp:2^i<4294967296:=Nat.pow_lt_pow_right (by omega) (show i<32 from hi)
 have e2:(1*2^i:Int)=((2^i:Nat):Int):=by simp
 rw[e,e2,Aj hp];refine⟨_,Aj (BitVec.isLt _),BitVec.isLt _,fun j=>?_⟩
 rw[BitVec.testBit_toNat,BitVec.getLsbD_and,BitVec.getLsbD_not,nr,nr,ns,ns,Nat.testBit_two_pow];by_cases hj:j<32
 ·have:decide (j<IntKind.bits .u32)=true:=decide_eq_true hj
  rw[this];simp[eq_comm]
 ·have h1:decide (j<IntKind.bits .u32)=false:=decide_eq_false hj
  have h2:d.testBit j=false:=gG (aD hd (jZ (n:=2) (by omega) (show 32≤j by omega)))
  rw[h1,h2];simp
theorem Ey{d i:Nat}(hd:d<4294967296)(hi:i<32){h:ad}{K:Int→ad→Prop}(hk:∀w:Nat,w<4294967296→(∀j,w.testBit j=(d.testBit j&&decide (j≠i)))→K (w:Int) h):HC PG jW [.int .u32 d,.int .i64 i] [.c (.int .u32)] K h:=by
 refine yd d i ?_;unfold rZ;refine E4 hi (ag.2 ⟨by omega,?_⟩);obtain⟨w,e,h1,h2⟩:=Jl hd hi;simp only[Bd];rw[e];exact hk w h1 h2
abbrev Ve:ByteArray:=⟨#[0,1,1,2,1,2,2,3,1,2,2,3,2,3,3,4,1,2,2,3,2,3,3,4,2,3,3,4,3,4,4,5,1,2,2,3,2,3,3,4,2,3,3,4,3,4,4,5,2,3,3,4,3,4,4,5,3,4,4,5,4,5,5,6,1,2,2,3,2,3,3,4,2,3,3,4,3,4,4,5,2,3,3,4,3,4,4,5,3,4,4,5,4,5,5,6,2,3,3,4,3,4,4,5,3,4,4,5,4,5,5,6,3,4,4,5,4,5,5,6,4,5,5,6,5,6,6,7,1,2,2,3,2,3,3,4,2,3,3,4,3,4,4,5,2,3,3,4,3,4,4,5,3,4,4,5,4,5,5,6,2,3,3,4,3,4,4,5,3,4,4,5,4,5,5,6,3,4,4,5,4,5,5,6,4,5,5,6,5,6,6,7,2,3,3,4,3,4,4,5,3,4,4,5,4,5,5,6,3,4,4,5,4,5,5,6,4,5,5,6,5,6,6,7,3,4,4,5,4,5,5,6,4,5,5,6,5,6,6,7,4,5,5,6,5,6,6,7,5,6,6,7,6,7,7,8]⟩
theorem SO:(ga 256).all (fun b=>decide (Ve[b]? =some (gZ (wg 8 b))))=true:=by decide+kernel
theorem Im{b:Nat}(h:b<256):Ve[b]? =some (gZ (wg 8 b)):=of_decide_eq_true (List.all_eq_true.1 SO b (gI.2 h))
theorem Jf(b:Nat):(gZ (wg 8 b)).toNat=wg 8 b:=by
 have:=zT 8 b;simp;omega
theorem Wg(d:Nat):wg 32 d=wg 8 (d>>>24)+wg 8 ((d>>>16)&&&255)+wg 8 ((d>>>8)&&&255)+wg 8 (d&&&255):=by
 rw[UQ,UQ,UQ,show(32:Nat)=8+(8+(8+8))from rfl,Er,Er,Er]
 simp only[←Nat.shiftRight_add,Nat.reduceAdd];omega
set_option maxRecDepth 100000 in
theorem Tg{d:Nat}(hd:d<4294967296){h:ad}{K:Int→ad→Prop}(hk:K (wg 32 d:Int) h):HC PG kK [.int .u32 d] [.c (.int .i64)] K h:=by
 refine vJ d ?_;unfold pP;have e24:dM (d:Int) (2^(min (24:Int).toNat (IntKind.bits .u32)))=((d>>>24:Nat):Int):=m9 d 24;have e16:dM (d:Int) (2^(min (16:Int).toNat (IntKind.bits .u32)))=((d>>>16:Nat):Int):=m9 d 16;have e8:dM (d:Int) (2^(min (8:Int).toNat (IntKind.bits .u32)))=((d>>>8:Nat):Int):=m9 d 8;have b:∀x:Nat,x<4294967296→IntKind.wrap .u32 (ar (IntKind.bits .u32) (x:Int)&&&ar (IntKind.bits .u32) 255).toNat=((x&&&255:Nat):Int):=fun x hx=>by
  have:=Sk x 255;rw[ir hx]at this;rw[show((255:Nat):Int)=(255:Int)from rfl]at this
  rw[this,Aj (Jp (by omega))]
 have l24:d>>>24<256:=by rw[g9];omega
 have lb:∀x:Nat,x&&&255<256:=fun x=>jy Nat.and_le_right (by omega)
 have s16:d>>>16<4294967296:=jy (qz d 16) hd;have s8:d>>>8<4294967296:=jy (qz d 8) hd;simp only[Bd];rw[e24,e16,e8,b _ s16,b _ s8,b _ hd];refine⟨by decide,_,by omega,Im (b:=d>>>24) l24,by decide,_,by omega,Im (lb _),by decide,_,by omega,Im (lb _),_,by omega,Im (lb _),?_⟩
 rw[Jf,Jf,Jf,Jf];simp only[aV];have q1:=zT 8 (d>>>24);have q2:=zT 8 (d>>>16&&&255);have q3:=zT 8 (d>>>8&&&255);have q4:=zT 8 (d&&&255);rw[Wg]at hk;have u8:∀n:Nat,n≤255→IntKind.wrap .u8 (n:Int)=(n:Int):=fun n hn=>Go.IntWalk.u8_in _ (by omega)
 rw[←Int.natCast_add,u8 _ (by omega),←Int.natCast_add,u8 _ (by omega),←Int.natCast_add,u8 _ (by omega),dU (by omega)];exact hk
theorem rz{d i:Nat}(hd:d<4294967296)(hi:i<32){h:ad}{K:Int→ad→Prop}(hk:K (wg i d:Int) h):HC PG dt [.int .u32 d,.int .i64 i] [.c (.int .i64)] K h:=by
 refine Bt d i ?_;unfold uR bT;refine aB (fun h0=>?_) fun h0=>?_
 ·have:i=0:=by omega
  subst this;exact hk
 ·refine aB (fun h=>by omega) fun _=>⟨by omega,?_⟩
  have e:min (i:Int).toNat (IntKind.bits .u32)=i:=by rw[aV];exact bD (by show i≤32;omega)
  have hp:2^i<4294967296:=Nat.pow_lt_pow_right (by omega) (show i<32 from hi)
  have hp0:0<2^i:=Nat.pow_pos (by omega);have e2:(1*2^i:Int)=((2^i:Nat):Int):=by simp
  have e3:(((2^i:Nat):Int)-1)=((2^i-1:Nat):Int):=by omega
  simp only[Bd];rw[e,e2,Aj hp,e3,Aj (show 2^i-1<4294967296 by omega),Sk,ir hd,ir (show 2^i-1<4294967296 by omega),Aj (Jp (by omega))]
  refine Ad _ ?_;unfold tX bT;refine Tg (Jp (by omega)) ?_;rw[O1 d i 32 (by omega)];exact hk
end Go.Proofs
namespace Go.Proofs
open Go.Lift
def fm{β:Type}(g:Nat→Option β)(n:Nat):List β:=(ga n).filterMap g
def upd{β:Type}(g:Nat→Option β)(i:Nat)(x:Option β)(j:Nat):Option β:=if j=i then x else g j
theorem Vy{β:Type}{f g:Nat→Option β}:∀l:List Nat,(∀j∈l,f j=g j)→l.filterMap f=l.filterMap g
 | [],_=>rfl
 |j::l,h=>by
  rw[List.filterMap_cons,List.filterMap_cons,h j (ao ..),Vy l fun k hk=>h k (List.mem_cons_of_mem _ hk)]
section
variable {β:Type} {g:Nat→Option β} {d:Nat}
theorem Fw(hd:∀c,c<32→d.testBit c=(g c).isSome){i:Nat}(hi:i≤32):(fm g i).length=wg i d:=by
 unfold fm wg;rw[List.length_filterMap_eq_countP];exact List.countP_congr fun j hj=>by rw[hd j (by have:=gI.1 hj;omega)]
theorem rQ{i n:Nat}(hi:i<n):fm g n=fm g i++((g i).toList++(ga (n-(i+1))).filterMap fun j=>g (i+1+j)):=by
 unfold fm;have e:n=i+(1+(n-(i+1))):=by omega
 rw[e,tZ,qP,tZ];have e2:i+(1+(n-(i+1)))-(i+1)=n-(i+1):=by omega
 rw[e2];congr 1
 rw[List.map_append,qP,List.map_map];congr 1
 rw[List.filterMap_map];refine Vy _ fun j _=>?_
 show g (i+(1+j))=_
 rw[Nat.add_assoc]
theorem zH{i:Nat}{x:Option β}:fm (upd g i x) i=fm g i:=by
 unfold fm;refine Vy _ fun j hj=>?_
 have:=gI.1 hj;unfold upd;rw[if_neg (by omega)]
theorem xM{i m:Nat}{x:Option β}:((ga m).filterMap fun j=>upd g i x (i+1+j))=(ga m).filterMap fun j=>g (i+1+j):=by
 refine Vy _ fun j _=>?_
 unfold upd;rw[if_neg (by omega)]
theorem RD{i:Nat}(hi:i<32)(hd:∀c,c<32→d.testBit c=(g c).isSome)(hn:g i=none)(x:β):fm (upd g i (some x)) 32=(fm g 32).take (wg i d)++x::(fm g 32).drop (wg i d):=by
 have hl:=Fw hd (i:=i) (by omega);rw[rQ (g:=upd g i (some x)) hi,rQ (g:=g) hi,zH,xM,hn,cY hl,cI hl];simp[upd]
theorem RC{i:Nat}(hi:i<32)(hd:∀c,c<32→d.testBit c=(g c).isSome){y:β}(hn:g i=some y)(x:β):fm (upd g i (some x)) 32=(fm g 32).take (wg i d)++x::(fm g 32).drop (wg i d+1):=by
 have hl:=Fw hd (i:=i) (by omega);rw[rQ (g:=upd g i (some x)) hi,rQ (g:=g) hi,zH,xM,hn,cY hl,←dI,cI hl];simp[upd]
theorem RE{i:Nat}(hi:i<32)(hd:∀c,c<32→d.testBit c=(g c).isSome){y:β}(hn:g i=some y):fm (upd g i none) 32=(fm g 32).take (wg i d)++(fm g 32).drop (wg i d+1):=by
 have hl:=Fw hd (i:=i) (by omega);rw[rQ (g:=upd g i none) hi,rQ (g:=g) hi,zH,xM,hn,cY hl,←dI,cI hl];simp[upd]
theorem RF{i:Nat}(hi:i<32)(hd:∀c,c<32→d.testBit c=(g c).isSome){y:β}(hn:g i=some y):(fm g 32)[wg i d]? =some y:=by
 have hl:=Fw hd (i:=i) (by omega);rw[rQ (g:=g) hi,hn,List.getElem?_append_right (by omega),hl,Nat.sub_self];rfl
theorem HQ{i:Nat}(hi:i<32)(hd:∀c,c<32→d.testBit c=(g c).isSome){y:β}(hn:g i=some y):wg i d<(fm g 32).length:=(List.getElem?_eq_some_iff.1 (RF hi hd hn)).1
theorem Ua{i:Nat}(hi:i<32)(hd:∀c,c<32→d.testBit c=(g c).isSome):wg i d≤(fm g 32).length:=by
 have hl:=Fw hd (i:=i) (by omega);rw[rQ (g:=g) hi,ac];omega
theorem yV:(fm g 32).length≤32:=by
 have:=List.length_filterMap_le g (ga 32);simpa[fm]using this
end
end Go.Proofs
namespace Go.Proofs
open Go.Lift
abbrev sv(s:SliceV):Value:=.slice s.a s.len s.cap
structure Slots where
 p:Nat→Option Pr
 k:Nat→Option (Option Addr)
def eZ(d n:Nat)(sp sk:SliceV)(bu:Bool)(ow:Option Addr):Array Value:= #[.int .u32 (d:Int),.int .u32 (n:Int),sv sp,sv sk,.bool bu,.pointer ow]
structure BitsOf(d n:Nat)(s:Slots):Prop where
 d32:d<4294967296
 n32:n<4294967296
 dp:∀c,c<32→d.testBit c=(s.p c).isSome
 nk:∀c,c<32→n.testBit c=(s.k c).isSome
structure NodeAt(W:Nat→Prop)(h:ad)(b:Nat)(s:Slots):Prop where
 ex:∃d n sp sk ow,h[b]? =some (.cells (eZ d n sp sk false ow) bw (0,0))∧BitsOf d n s∧Sl eh 2 W h sp (fm s.p 32)∧Sl rM 1 W h sk (fm s.k 32)∧sp.len≤sp.cap∧sk.len≤sk.cap
 nw:¬W b
theorem NodeAt.upd{W M:Nat→Prop}{h h':ad}{b:Nat}{s:Slots}(n:NodeAt W h b s)(k:Upd M h h')(hm:∀b,M b→W b∨h.size≤b):NodeAt W h' b s:=by
 obtain⟨d,m,sp,sk,ow,h1,h2,h3,h4,h5,h6⟩:=n.ex;exact⟨⟨d,m,sp,sk,ow,k.get h1 (fun hb=>(hm _ hb).elim n.nw fun h=>by have:=bd h1;omega),h2,h3.upd k hm,h4.upd k hm,h5,h6⟩,n.nw⟩
structure OwnN(M:Nat→Prop)(h:ad)(b d n:Nat)(sp sk:SliceV)(s:Slots)(ow:Option Addr):Prop where
 blk:h[b]? =some (.cells (eZ d n sp sk false ow) bw (0,0))
 bits:BitsOf d n s
 ex:∃A B:Nat→Prop,OwnS eh 2 af A h sp (fm s.p 32)∧OwnS rM 1 bR B h sk (fm s.k 32)∧(∀x,A x→M x∧¬B x∧x≠b∧x<h.size)∧(∀x,B x→M x∧x≠b∧x<h.size)
 mb:M b
theorem xG{h:ad}{K:Bool→ad→Prop}(hk:K false h):HC PG ie [.pointer none] [.c .bool] K h:=by
 refine zX none ?_;unfold tQ be;exact ag.2 hk
theorem Hp{b:Nat}{h:ad}{K:Bool→ad→Prop}(hk:K false h):HC PG qj [.pointer (some ⟨b,0,none⟩),.pointer none] [.c .bool] K h:=by
 refine Bk _ none ?_;unfold uK bi;exact ax.2 (xG (ag.2 hk))
theorem OwnN.upd{M M':Nat→Prop}{h h':ad}{b d n:Nat}{sp sk:SliceV}{s:Slots}{ow:Option Addr}(o:OwnN M h b d n sp sk s ow)(k:Upd M' h h')(hm:∀x,M' x→¬M x):OwnN M h' b d n sp sk s ow:=by
 obtain⟨A,B,h1,h2,h3,h4⟩:=o.ex;have z:=k.size;exact⟨k.get o.blk fun hb=>hm _ hb o.mb,o.bits,⟨A,B,h1.upd k fun x hx hy=>hm _ hy (h3 x hx).1,h2.upd k fun x hx hy=>hm _ hy (h4 x hx).1,fun x hx=>⟨(h3 x hx).1,(h3 x hx).2.1,(h3 x hx).2.2.1,by have:=(h3 x hx).2.2.2;omega⟩,fun x hx=>⟨(h4 x hx).1,(h4 x hx).2.1,by have:=(h4 x hx).2.2;omega⟩⟩,o.mb⟩
set_option maxRecDepth 4000 in
theorem MU{W:Nat→Prop}{h:ad}{b:Nat}{s:Slots}(nd:NodeAt W h b s){K:Option Addr→ad→Prop}
  (hk:∀h' d n sp sk,OwnN (fun x=>h.size≤x) h' h.size d n sp sk s none→Upd No h h'→K (some ⟨h.size,0,none⟩) h'):
  HC PG gS [.pointer (some ⟨b,0,none⟩),.pointer none] [.c .ptr] K h:=by
 obtain⟨d,n,sp,sk,ow,hb,bits,hsp,hsk,hcp,hck⟩:=nd.ex;refine xg _ none ?_;unfold sy bi be nv bW dN iI mN Qw Ui;refine Hp (ag.2 ?_);have c:∀{h:ad} {b:Nat} {c:Array Value} {i:Nat},h[b]? =some (.cells c bw (0,0))→aP h ⟨b,0+i,none⟩=c[i]?:=fun hb=>by rw[aN];exact bf hb
 refine⟨_,rfl,_,c (i:=0) hb,_,c (i:=1) hb,sp,c (i:=2) hb,sk,c (i:=3) hb,_,c (i:=4) hb,_,c (i:=5) hb,?_⟩;have k1:=Upd.hnew No h [.int .u32 0,.int .u32 0,.slice none 0 0,.slice none 0 0,.bool false,.pointer none] bw;have b1:=bU h [.int .u32 0,.int .u32 0,.slice none 0 0,.slice none 0 0,.bool false,.pointer none] bw;refine bq ?_;simp only[cF h];generalize hnew h [.int .u32 0,.int .u32 0,.slice none 0 0,.slice none 0 0,.bool false,.pointer none] bw=h1 at k1 b1
 have hs1:ff h1 ⟨h.size,0,none⟩ 0 [.int .u32 (d:Int),.int .u32 (n:Int),.slice sp.a sp.len sp.cap,.slice sk.a sk.len sk.cap,.bool false,.pointer ow]=_:=jk _ h1 0 0 _ b1 (by simp);refine⟨.inr ⟨_,rfl,fun j hj=>by rw[ce];exact iA b1 (by simp at hj⊢;omega)⟩,bq ?_⟩
 rw[hs1];have b2:=ja (o:=.cells (eZ d n sp sk false ow) bw (0,0)) b1;have k2:Upd No h _:=k1.trans (M':=(· =h.size)) (Upd.set h1 (.cells (eZ d n sp sk false ow) bw (0,0)) rfl) fun x hx=>.inr (eC hx.symm)
 have hz2:h.size<(h1.setIfInBounds h.size (.cells (eZ d n sp sk false ow) bw (0,0))).size:=bd b2;have hbb:h.size≠b:=fun e=>by have:=bd hb;omega
 have e2:(Obj.cells (List.take (0+0) [Value.int .u32 0,.int .u32 0,.slice none 0 0,.slice none 0 0,.bool false,.pointer none]++ [Value.int .u32 (d:Int),.int .u32 (n:Int),.slice sp.a sp.len sp.cap,.slice sk.a sk.len sk.cap,.bool false,.pointer ow]++List.drop (0+0+ [Value.int .u32 (d:Int),.int .u32 (n:Int),.slice sp.a sp.len sp.cap,.slice sk.a sk.len sk.cap,.bool false,.pointer ow].length) [Value.int .u32 0,.int .u32 0,.slice none 0 0,.slice none 0 0,.bool false,.pointer none]).toArray bw (0,0))=.cells (eZ d n sp sk false ow) bw (0,0):=rfl
 rw[e2];generalize h1.setIfInBounds h.size (.cells (eZ d n sp sk false ow) bw (0,0))=h2 at b2 k2 hz2;have hb2:=k2.get0 hb;refine⟨_,rfl,sp,c (i:=2) hb2,_,rfl,sk,c (i:=3) hb2,?_⟩;refine vD (hsp.upd k2 fun _ h=>h.elim) (by have:=yV (g:=s.p);omega) fun s3 h3 ho3 hu3=>?_
 refine⟨c (i:=3) (hu3.get0 hb2),?_⟩;refine Cr ((hsk.upd k2 fun _ h=>h.elim).upd hu3 fun _ h=>h.elim) (by have:=yV (g:=s.k);omega) fun s4 h4 ho4 hu4=>?_
 have b4:=hu4.get0 (hu3.get0 b2);have ho3':=ho3.within.upd hu4 fun _ _ h=>h
 have ho4':=ho4.within;have z3:=hu3.size;have z4:=hu4.size;have w:∀{h:ad} {c:Array Value} {x i:Nat},h[x]? =some (.cells c bw (0,0))→i<c.size→Wr h ⟨x,0+i,none⟩:=fun hb hi=>by rw[aN];exact iA hb hi
 have st:∀{h:ad} {c c':Array Value} {x i:Nat} {v:Value} {k:ad→Prop},h[x]? =some (.cells c bw (0,0))→c.setIfInBounds i v=c'→(∀h',h'[x]? =some (.cells c' bw (0,0))→Upd (· =x) h h'→k h')→At (hset h ⟨x,i,none⟩ v) k:=fun hb e hk=>yb hb fun h' hb' hu=>hk h' (e▸hb') hu
 refine⟨w (i:=2) b4 (show 2<6 by decide),st (i:=2) (c':=eZ d n s3 sk false ow) b4 rfl fun h5 b5 hu5=>?_⟩
 refine⟨w (i:=3) b5 (show 3<6 by decide),st (i:=3) (c':=eZ d n s3 s4 false ow) b5 rfl fun h6 b6 hu6=>?_⟩
 refine⟨w (i:=5) b6 (show 5<6 by decide),st (i:=5) (c':=eZ d n s3 s4 false none) b6 rfl fun h7 b7 hu7=>?_⟩
 refine xG (ag.2 ?_);have hu47:=hu5.tr (hu6.tr hu7);have z7:=hu47.size;refine hk _ d n s3 s4 ⟨b7,bits,⟨fun x=>h2.size≤x∧x<h3.size,fun x=>h3.size≤x∧x<h4.size,ho3'.upd hu47 fun x hx e=>by have e:x=h.size:=e;omega,ho4'.upd hu47 fun x hx e=>by have e:x=h.size:=e;omega,fun x hx=>⟨by omega,by omega,by omega,by omega⟩,fun x hx=>⟨by omega,by omega,by omega⟩⟩,aq _⟩ ?_
 exact((k2.tr hu3).tr hu4).trans hu47 fun x hx=>.inr (eC hx.symm)
end Go.Proofs
namespace Go.Proofs
open Go.Lift
theorem vj{β:Type}{g:Nat→Option β}{i:Nat}(h:g i=none):upd g i none=g:=by
 funext j;unfold upd;split
 ·rename_i e;rw[e,h]
 ·rfl
theorem eD{h:ad}{b:Nat}{c:Array Value}{t:TypeId}{i:Nat}(hb:h[b]? =some (.cells c t (0,0))):aP h ⟨b,0+i,none⟩=c[i]?:=by rw[aN];exact bf hb
theorem Sz{h:ad}{b:Nat}{c:Array Value}{t:TypeId}{i:Nat}(hb:h[b]? =some (.cells c t (0,0))) (hi:i<c.size):Wr h ⟨b,0+i,none⟩:=by rw[aN];exact iA hb hi
theorem Gv{h:ad}{b:Nat}{c c':Array Value}{t:TypeId}{i:Nat}{v:Value}{k:ad→Prop}(hb:h[b]? =some (.cells c t (0,0))) (e:c.setIfInBounds i v=c')
 (hk:∀h',h'[b]? =some (.cells c' t (0,0))→Upd (· =b) h h'→k h'):At (hset h ⟨b,i,none⟩ v) k:=yb hb fun h' hb' hu=>hk h' (e▸hb') hu
theorem Je{M:Nat→Prop}{h:ad}{b d n:Nat}{sp sk:SliceV}{s:Slots}{ow:Option Addr}(o:OwnN M h b d n sp sk s ow){i:Nat}(hi:i<32){K:Unit→ad→Prop}
  (hk:∀h' d' n' sp' sk',OwnN M h' b d' n' sp' sk' ⟨upd s.p i none,upd s.k i none⟩ ow→Upd M h h'→K () h'):HC PG jS [.pointer (some ⟨b,0,none⟩),.int .i64 i] [] K h:=by
 obtain⟨A,B,hA,hB,hAm,hBm⟩:=o.ex;have bits:=o.bits;refine Bi _ i ?_;unfold uI bW bT dN iI pe kI JP;have ew:∀k:Nat,k≤100→IntKind.wrap .i64 ((k:Int)+1)=((k+1:Nat):Int):=fun k hk=>by rw[dU (by omega)];omega
 have hc1:=zT i d;have hc2:=zT i n;have hAM:∀x,A x→M x∨h.size≤x:=fun x hx=>.inl (hAm x hx).1
 refine Join.intro (fun _ h'=>∃sp',h'[b]? =some (.cells (eZ d n sp' sk false ow) bw (0,0))∧OwnS eh 2 af A h' sp' (fm (upd s.p i none) 32)∧OwnS rM 1 bR B h' sk (fm s.k 32)∧Upd M h h') (fun R hR=>?_) ?_
 ·refine⟨_,rfl,_,eD (i:=0) o.blk,Ci bits.d32 hi ?_⟩
  rw[bits.dp i hi];cases hp:s.p i with
  |none=>exact ag.2 (hR _ _ ⟨sp,o.blk,by rw[vj hp];exact hA,hB,Upd.refl _ _⟩)
  |some y=>
   refine ax.2 ⟨_,rfl,_,eD (i:=0) o.blk,rz bits.d32 hi ⟨_,rfl,sp,eD (i:=2) o.blk,?_⟩⟩;rw[ew _ (by omega)];refine Nu hA (HQ hi bits.dp hp) (by have:=yV (g:=s.p);omega) fun s2 h2 ho2 hu2=>?_
   rw[←RE hi bits.dp hp]at ho2;have b2:=hu2.get o.blk fun hb=>(hAm b hb).2.2.1 rfl
   refine⟨_,rfl,Sz (i:=2) b2 (show 2<6 by decide),Gv (i:=2) (c':=eZ d n s2 sk false ow) b2 rfl fun h3 b3 hu3=>?_⟩
   refine hR _ _ ⟨s2,b3,ho2.upd hu3 fun x hx e=>(hAm x hx).2.2.1 e,(hB.upd hu2 fun x hx hy=>(hAm x hy).2.1 hx).upd hu3 fun x hx e=>(hBm x hx).2.1 e,(hu2.mono hAM).tr (hu3.mono fun x e=>.inl (e▸o.mb))⟩
 rintro _ h1 ⟨sp1,b1,hA1,hB1,hu1⟩;refine Join.intro (fun _ h'=>∃sk',h'[b]? =some (.cells (eZ d n sp1 sk' false ow) bw (0,0))∧OwnS eh 2 af A h' sp1 (fm (upd s.p i none) 32)∧OwnS rM 1 bR B h' sk' (fm (upd s.k i none) 32)∧Upd M h1 h') (fun R hR=>?_) ?_
 ·refine⟨_,rfl,_,eD (i:=1) b1,Ci bits.n32 hi ?_⟩
  rw[bits.nk i hi];cases hp:s.k i with
  |none=>exact ag.2 (hR _ _ ⟨sk,b1,hA1,by rw[vj hp];exact hB1,Upd.refl _ _⟩)
  |some y=>
   refine ax.2 ⟨_,rfl,_,eD (i:=1) b1,rz bits.n32 hi ⟨_,rfl,sk,eD (i:=3) b1,?_⟩⟩;rw[ew _ (by omega)];refine Nv hB1 (HQ hi bits.nk hp) (by have:=yV (g:=s.k);omega) fun s2 h2 ho2 hu2=>?_
   rw[←RE hi bits.nk hp]at ho2;have b2:=hu2.get b1 fun hb=>(hBm b hb).2.1 rfl
   refine⟨_,rfl,Sz (i:=3) b2 (show 3<6 by decide),Gv (i:=3) (c':=eZ d n sp1 s2 false ow) b2 rfl fun h3 b3 hu3=>?_⟩
   refine hR _ _ ⟨s2,b3,(hA1.upd hu2 fun x hx hy=>(hAm x hx).2.1 hy).upd hu3 fun x hx e=>(hAm x hx).2.2.1 e,ho2.upd hu3 fun x hx e=>(hBm x hx).2.1 e,(hu2.mono fun x hx=>.inl (hBm x hx).1).tr (hu3.mono fun x e=>.inl (e▸o.mb))⟩
 rintro _ h2 ⟨sk2,b2,hA2,hB2,hu2⟩;refine⟨_,rfl,_,eD (i:=0) b2,_,rfl,_,eD (i:=1) b2,?_⟩;refine Ey bits.d32 hi fun d' hd' hdt=>⟨eD (i:=1) b2,?_⟩
 refine Ey bits.n32 hi fun n' hn' hnt=>?_
 refine⟨_,rfl,Sz (i:=0) b2 (show 0<6 by decide),Gv (i:=0) (c':=eZ d' n sp1 sk2 false ow) b2 rfl fun h3 b3 hu3=>?_⟩
 refine⟨_,rfl,Sz (i:=1) b3 (show 1<6 by decide),Gv (i:=1) (c':=eZ d' n' sp1 sk2 false ow) b3 rfl fun h4 b4 hu4=>?_⟩
 have hu34:=hu3.tr hu4;have z:=(hu1.tr (hu2.tr (hu34.mono (M':=M) fun x e=>.inl (e▸o.mb)))).size
 refine hk h4 d' n' sp1 sk2 ⟨b4,⟨hd',hn',fun c hc=>?_,fun c hc=>?_⟩,⟨A,B,hA2.upd hu34 fun x hx e=>(hAm x hx).2.2.1 e,hB2.upd hu34 fun x hx e=>(hBm x hx).2.1 e,fun x hx=>⟨(hAm x hx).1,(hAm x hx).2.1,(hAm x hx).2.2.1,by have:=(hAm x hx).2.2.2;omega⟩,fun x hx=>⟨(hBm x hx).1,(hBm x hx).2.1,by have:=(hBm x hx).2.2;omega⟩⟩,o.mb⟩ (hu1.tr (hu2.tr (hu34.mono fun x e=>.inl (e▸o.mb))))
 ·rw[hdt,bits.dp c hc];simp only[upd];split<;>simp[*]
 ·rw[hnt,bits.nk c hc];simp only[upd];split<;>simp[*]
end Go.Proofs
namespace Go.Proofs
open Go.Lift
theorem OwnS.setAt{α:Type}{f:α→List Value}{sz:Nat}{t:TypeId}{M:Nat→Prop}{h:ad}{s:SliceV}{xs:List α}(hs:OwnS f sz t M h s xs){k:Nat}(hkl:k<xs.length)(x:α):
  ∃a,s.a=some a∧M a.block∧qL h (some (adr a (k*sz))) 0 (f x)∧OwnS f sz t M (ff h (adr a (k*sz)) 0 (f x)) s (xs.take k++x::xs.drop (k+1))∧Upd (· =a.block) h (ff h (adr a (k*sz)) 0 (f x)):=by
 have hf:∀x,(f x).length=sz∧0<sz:=hs.ne;have hlen:=hs.len;have hcap:=hs.cap;rcases hs.blk with h0|⟨b,rest,ha,hb,hc,hr⟩
 ·omega
 have hA:((xs.take k).flatMap f).length=k*sz:=by rw[lw hf,aO,bD (by omega)]
 have e1:xs.flatMap f=(xs.take k).flatMap f++(f xs[k]++(xs.drop (k+1)).flatMap f):=by
  rw[←aI,←List.drop_eq_getElem_cons hkl];exact zR xs k
 rw[e1]at hc;have hX:=(hf xs[k]).1;have hY:=(hf x).1;have hins:(xs.take k++x::xs.drop (k+1)).flatMap f=(xs.take k).flatMap f++(f x++(xs.drop (k+1)).flatMap f):=by rw[List.flatMap_append,aI]
 generalize (xs.take k).flatMap f=A at hA hc hins;generalize (xs.drop (k+1)).flatMap f=B at hc hins;generalize f xs[k]=X at hX hc;have hl:k*sz+0+(f x).length≤(A++(X++B)++rest).length:=by simp only[ac];omega
 have ea:adr ⟨b,0,none⟩ (k*sz)=⟨b,k*sz,none⟩:=by rw[ce,aN]
 refine⟨⟨b,0,none⟩,ha,hb,?_,?_,?_⟩
 ·rw[ea]
  refine .inr ⟨_,rfl,fun j hj=>?_⟩
  rw[ce];exact iA hc (by rw[List.size_toArray];omega)
 ·rw[ea,jk (f x) h 0 (k*sz) _ hc hl]
  refine⟨by simp;omega,hf,hcap,.inr ⟨b,rest,ha,hb,?_,?_⟩⟩
  ·rw[ja hc,hins]
   congr 3
   rw[Nat.add_zero,al A,cY hA,←dI,cI hA,al X,cI (by omega)];simp only[al]
  ·exact hr
 ·rw[ea,jk (f x) h 0 (k*sz) _ hc hl]
  exact Upd.set h _ rfl
theorem OwnN.node{M W:Nat→Prop}{h:ad}{b d n:Nat}{sp sk:SliceV}{s:Slots}{ow:Option Addr}(o:OwnN M h b d n sp sk s ow)(hW:∀x,M x→¬W x):NodeAt W h b s:=by
 obtain⟨A,B,h1,h2,h3,h4⟩:=o.ex;exact⟨⟨d,n,sp,sk,ow,o.blk,o.bits,h1.sl fun x hx _=>hW _ (h3 x hx).1,h2.sl fun x hx _=>hW _ (h4 x hx).1,h1.cap,h2.cap⟩,hW _ o.mb⟩
theorem Fs{W:Nat→Prop}{h:ad}{b:Nat}{s:Slots}(nd:NodeAt W h b s){i:Nat}(hi:i<32){K:Bool→ad→Prop}(hk:K true h):HC PG jT [.pointer (some ⟨b,0,none⟩),.int .i64 i] [.c .bool] K h:=by
 obtain⟨d,n,sp,sk,ow,hb,_⟩:=nd.ex;refine Bj _ i ?_;unfold uJ be;refine ax.2 ⟨_,rfl,_,eD (i:=4) hb,ax.2 ?_⟩;refine aB (fun _=>?_) fun h=>absurd (Int.natCast_nonneg i) h
 rw[decide_eq_true (by omega)];exact hk
theorem Oc{β:Type}{g:Nat→Option β}{i:Nat}{x y:Option β}:upd (upd g i x) i y=upd g i y:=by
 funext j;unfold upd;split<;>rfl
theorem fP{β:Type}{g:Nat→Option β}{i:Nat}{x:Option β}:upd g i x i=x:=by simp[upd]
theorem qT{W:Nat→Prop}{h:ad}{b:Nat}{s:Slots}(nd:NodeAt W h b s)(hW:∀x,W x→x<h.size){i:Nat}(hi:i<32)(hx:∀y,s.p i=some y→s.k i=none)(p:Pr){K:Option Addr→ad→Prop}
  (hk:∀h' b',NodeAt W h' b' ⟨upd s.p i (some p),upd s.k i none⟩→Upd No h h'→K (some ⟨b',0,none⟩) h'):
  HC PG dS [.pointer (some ⟨b,0,none⟩),.pointer none,.int .i64 i,.agg #[.string p.1,.string p.2]] [.c .ptr] K h:=by
 refine yK _ none i p ?_;unfold sN bZ bW bT jG ft av dN vo kY iI pe kI mN;have k1:=Upd.hnew No h [.string p.1,.string p.2] af;have b1:=bU h [.string p.1,.string p.2] af;refine bq ?_;simp only[cF h];generalize hnew h [.string p.1,.string p.2] af=h1 at k1 b1;have z1:=bd b1;have nd1:=nd.upd k1 fun _ h=>h.elim
 refine Fs nd1 hi (ag.2 ?_);refine MU nd1 fun h2 d n sp sk o hu2=>?_
 have bits:=o.bits;obtain⟨A,B,hA,hB,hAm,hBm⟩:=o.ex;have hu02:=k1.tr hu2;have b12:=hu2.get0 b1;have hMW:∀x,h1.size≤x→¬W x:=fun x hx hw=>by have:=hW x hw;omega
 refine⟨_,rfl,_,eD (i:=0) o.blk,Ci bits.d32 hi ?_⟩;rw[bits.dp i hi];cases hp:s.p i with
 |some y=>
  refine ax.2 ⟨_,rfl,sp,eD (i:=2) o.blk,_,rfl,_,eD (i:=0) o.blk,p.1,by rw[ce,bf b12];rfl,p.2,by rw[ce,bf b12];rfl,?_⟩
  refine rz bits.d32 hi ⟨⟨by rw[ce,bf b12];rfl,by rw[ce,bf b12];rfl⟩,eD (i:=2) o.blk,?_⟩
  have hlt:=HQ hi bits.dp hp;obtain⟨a,ha,hab,hw,ho3,hu3⟩:=OwnS.setAt hA hlt p;have hlen:=hA.len;refine⟨by omega,a,ha,?_⟩;rw[aV];refine⟨hw,bq ?_⟩;rw[←RC hi bits.dp hp]at ho3;have ob:=hu3.get o.blk fun e=>(hAm _ hab).2.2.1 e.symm
  have z3:=hu3.size;have o3:OwnN (fun x=>h1.size≤x) _ h1.size d n sp sk ⟨upd s.p i (some p),upd s.k i none⟩ none:=⟨ob,⟨bits.d32,bits.n32,fun c hc=>by
    rw[bits.dp c hc];simp only[upd];split
    ·rename_i e;rw[e,hp];rfl
    ·rfl,fun c hc=>by rw[bits.nk c hc,vj (hx y hp)]⟩,
   ⟨A,B,ho3,by rw[vj (hx y hp)];exact hB.upd hu3 fun x hx e=>(hAm _ hab).2.1 (e▸hx),fun x hx=>⟨(hAm x hx).1,(hAm x hx).2.1,(hAm x hx).2.2.1,by have:=(hAm x hx).2.2.2;omega⟩,fun x hx=>⟨(hBm x hx).1,(hBm x hx).2.1,by have:=(hBm x hx).2.2;omega⟩⟩,o.mb⟩
  refine hk _ _ (o3.node hMW) (hu02.trans hu3 fun x hx=>.inr ?_)
  have:=(hAm _ hab).1;have hx:x=a.block:=hx;omega
 |none=>
  refine ag.2 ⟨_,rfl,Je o hi fun h3 d3 n3 sp3 sk3 o3 hu3=>?_⟩
  have bits3:=o3.bits;obtain⟨A3,B3,hA3,hB3,hAm3,hBm3⟩:=o3.ex;have z2:=hu2.size;have z3:=hu3.size;have b13:=hu3.get b12 (show ¬h1.size≤h.size by omega)
  have hu03:Upd No h h3:=hu02.trans hu3 fun x hx=>.inr (aZ (Nat.le_of_lt z1) hx)
  refine⟨_,rfl,sp3,eD (i:=2) o3.blk,_,rfl,_,eD (i:=0) o3.blk,p.1,by rw[ce,bf b13];rfl,p.2,by rw[ce,bf b13];rfl,?_⟩
  have k4:=Upd.hnew No h3 [.string p.1,.string p.2] af;have b4:=bU h3 [.string p.1,.string p.2] af;have z4:=iJ h3 [.string p.1,.string p.2] af;have o4:=o3.upd k4 fun _ h=>h.elim
  have fin:HC PG cW [.slice sp3.a sp3.len sp3.cap,.int .i64 (wg i d3),.slice (some (aj h3)) 1 1] [.c .slice] (fun(e32:SliceV) h33=>
       ∃a34:Addr,some (⟨h1.size,0,none⟩:Addr)=some a34∧
       (Wr h33 (adr (adr a34 0) 2)∧
        At (hset h33 (adr (adr a34 0) 2) (.slice e32.a e32.len e32.cap)) (fun h35=>
         ∃a36:Addr,some (⟨h1.size,0,none⟩:Addr)=some a36∧
         ∃v37:Int,aP h35 (adr (adr a36 0) 0)=some (.int .u32 v37)∧
         HC PG fH [.int .u32 v37,.int .i64 i] [.c (.int .u32)] (fun(e38:Int) h39=>
          ∃a40:Addr,some (⟨h1.size,0,none⟩:Addr)=some a40∧
          (Wr h39 (adr (adr a40 0) 0)∧
           At (hset h39 (adr (adr a40 0) 0) (.int .u32 e38)) (fun h41=>
            K (some ⟨h1.size,0,none⟩) h41))) h35))) (hnew h3 [.string p.1,.string p.2] af):=by
   generalize hnew h3 [.string p.1,.string p.2] af=h4 at k4 b4 z4 o4;rw[cF h3];have hA4:=(hA3.upd k4 fun _ _ h=>h).more (M':=fun x=>A3 x∨h4.size≤x) fun x hx=>.inl hx
   have hpn:(⟨upd s.p i none,upd s.k i none⟩:Slots).p i=none:=fP;refine Nc hA4 (Ua hi bits3.dp) (by have:=yV (g:=(⟨upd s.p i none,upd s.k i none⟩:Slots).p);omega) (x:=p) b4 (fun e=>e.elim (fun e=>by have:=(hAm3 _ e).2.2.2;omega) fun e=>by omega) (fun x hx=>.inr hx) fun s5 h5 ho5 hu5=>?_
   rw[←RD hi bits3.dp hpn p]at ho5;have hbl:h1.size<h3.size:=bd o3.blk;have b5:=hu5.get o4.blk fun e=>e.elim (fun e=>(hAm3 _ e).2.2.1 rfl) fun e=>by omega
   refine⟨_,rfl,Sz (i:=2) b5 (show 2<6 by decide),Gv (i:=2) (c':=eZ d3 n3 s5 sk3 false none) b5 rfl fun h6 b6 hu6=>?_⟩
   refine⟨_,rfl,_,eD (i:=0) b6,Ob bits3.d32 hi fun w hw hwt=>?_⟩
   refine⟨_,rfl,Sz (i:=0) b6 (show 0<6 by decide),Gv (i:=0) (c':=eZ w n3 s5 sk3 false none) b6 rfl fun h7 b7 hu7=>?_⟩
   have hu57:=hu6.tr hu7;have z5:=hu5.size;have z7:=hu57.size;have ho5':=ho5.within;have e1:(⟨upd (⟨upd s.p i none,upd s.k i none⟩:Slots).p i (some p),upd s.k i none⟩:Slots)=⟨upd s.p i (some p),upd s.k i none⟩:=by rw[Oc]
   have o7:OwnN (fun x=>h1.size≤x) h7 h1.size w n3 s5 sk3 ⟨upd s.p i (some p),upd s.k i none⟩ none:=by
    rw[←e1];refine⟨b7,⟨hw,bits3.n32,fun c hc=>?_,bits3.nk⟩,⟨fun x=>(A3 x∨h4.size≤x)∧x<h5.size,B3,ho5'.upd hu57 fun x hx e=>?_,((hB3.upd k4 fun _ _ h=>h).upd hu5 fun x hx e=>?_).upd hu57 fun x hx e=>(hBm3 x hx).2.1 e,fun x hx=>⟨?_,?_,?_,by omega⟩,fun x hx=>⟨(hBm3 x hx).1,(hBm3 x hx).2.1,by have:=(hBm3 x hx).2.2;omega⟩⟩,o.mb⟩
    ·rw[hwt,bits3.dp c hc];simp only[upd];split<;>simp[*]
    ·have e:x=h1.size:=e
     rcases hx.1 with h|h
     ·exact(hAm3 x h).2.2.1 e
     ·omega
    ·rcases e with e|e
     ·exact(hAm3 x e).2.1 hx
     ·have:=(hBm3 x hx).2.2;omega
    ·rcases hx.1 with h|h
     ·exact(hAm3 x h).1
     ·omega
    ·rcases hx.1 with h|h
     ·exact(hAm3 x h).2.1
     ·exact fun hb=>by have:=(hBm3 x hb).2.2;omega
    ·rcases hx.1 with h|h
     ·exact(hAm3 x h).2.2.1
     ·omega
   refine hk _ _ (o7.node hMW) (((hu03.tr k4).trans hu5 fun x hx=>.inr ?_).trans hu57 fun x hx=>.inr ?_)
   ·rcases hx with h|h
    ·have:=(hAm3 x h).1;omega
    ·omega
   ·have hx:x=h1.size:=hx
    omega
  refine⟨rz bits3.d32 hi ⟨⟨by rw[ce,bf b13];rfl,by rw[ce,bf b13];rfl⟩,eD (i:=2) o3.blk,bq ⟨eD (i:=2) o4.blk,fin⟩⟩,bq ⟨eD (i:=0) o4.blk,eD (i:=2) o4.blk,rz bits3.d32 hi ⟨eD (i:=2) o4.blk,fin⟩⟩⟩
end Go.Proofs
namespace Go.Proofs
open Go.Lift
theorem RR{W:Nat→Prop}{h:ad}{b:Nat}{s:Slots}(nd:NodeAt W h b s)(hW:∀x,W x→x<h.size){i:Nat}(hi:i<32){K:Option Addr→ad→Prop}
  (hk:∀h' b',NodeAt W h' b' ⟨upd s.p i none,upd s.k i none⟩→Upd No h h'→K (some ⟨b',0,none⟩) h'):
  HC PG mu [.pointer (some ⟨b,0,none⟩),.pointer none,.int .i64 i] [.c .ptr] K h:=by
 refine Bm _ none i ?_;unfold uM kY mN;refine Fs nd hi (ag.2 ?_);refine MU nd fun h2 d n sp sk o hu2=>⟨_,rfl,Je o hi fun h3 d3 n3 sp3 sk3 o3 hu3=>?_⟩
 exact hk _ _ (o3.node fun x hx hw=>by have:=hW x hw;omega) (hu2.trans hu3 fun x hx=>.inr hx)
theorem vl{W:Nat→Prop}{h:ad}{b:Nat}{s:Slots}(nd:NodeAt W h b s)(hW:∀x,W x→x<h.size){i:Nat}(hi:i<32)(hx:∀y,s.k i=some y→s.p i=none)(kid:Addr){K:Option Addr→ad→Prop}
  (hk:∀h' b',NodeAt W h' b' ⟨upd s.p i none,upd s.k i (some (some kid))⟩→Upd No h h'→K (some ⟨b',0,none⟩) h'):
  HC PG fa [.pointer (some ⟨b,0,none⟩),.pointer none,.int .i64 i,.pointer (some kid)] [.c .ptr] K h:=by
 refine Ac _ none i (some kid) ?_;unfold tW bZ bW bT dN kY iI pe kI mN Ij;refine ag.2 ?_;refine Fs nd hi (ag.2 ?_);refine MU nd fun h2 d n sp sk o hu2=>?_
 have bits:=o.bits;obtain⟨A,B,hA,hB,hAm,hBm⟩:=o.ex;have hMW:∀x,h.size≤x→¬W x:=fun x hx hw=>by have:=hW x hw;omega
 refine⟨_,rfl,_,eD (i:=1) o.blk,Ci bits.n32 hi ?_⟩;rw[bits.nk i hi];cases hp:s.k i with
 |some y=>
  refine ax.2 ⟨_,rfl,sk,eD (i:=3) o.blk,_,rfl,_,eD (i:=1) o.blk,?_⟩;refine rz bits.n32 hi ⟨eD (i:=3) o.blk,?_⟩;have hlt:=HQ hi bits.nk hp;obtain⟨a,ha,hab,hw,ho3,hu3⟩:=OwnS.setAt hB hlt (some kid);have hlen:=hB.len;refine⟨by omega,a,ha,?_⟩;rw[aV];have hw1:Wr h2 (adr a (wg i n*1)):=by
   rcases hw with hw|⟨b',hb',hw⟩
   ·cases hw
   ·cases hb';exact hw 0 (by simp)
  refine⟨hw1,bq ?_⟩;rw[←RC hi bits.nk hp]at ho3;have ob:=hu3.get o.blk fun e=>(hBm _ hab).2.1 e.symm
  have z3:=hu3.size;have o3:OwnN (fun x=>h.size≤x) _ h.size d n sp sk ⟨upd s.p i none,upd s.k i (some (some kid))⟩ none:=⟨ob,⟨bits.d32,bits.n32,fun c hc=>by rw[bits.dp c hc,vj (hx y hp)],fun c hc=>by
    rw[bits.nk c hc];simp only[upd];split
    ·rename_i e;rw[e,hp];rfl
    ·rfl⟩,
   ⟨A,B,by rw[vj (hx y hp)];exact hA.upd hu3 fun x hx e=>(hAm _ hx).2.1 (e▸hab),ho3,fun x hx=>⟨(hAm x hx).1,(hAm x hx).2.1,(hAm x hx).2.2.1,by have:=(hAm x hx).2.2.2;omega⟩,fun x hx=>⟨(hBm x hx).1,(hBm x hx).2.1,by have:=(hBm x hx).2.2;omega⟩⟩,o.mb⟩
  refine hk _ _ (o3.node hMW) (hu2.trans hu3 fun x hx=>.inr ?_)
  have:=(hBm _ hab).1;have hx:x=a.block:=hx;omega
 |none=>
  refine ag.2 ⟨_,rfl,Je o hi fun h3 d3 n3 sp3 sk3 o3 hu3=>?_⟩
  have bits3:=o3.bits;obtain⟨A3,B3,hA3,hB3,hAm3,hBm3⟩:=o3.ex;have z2:=hu2.size;have z3:=hu3.size;have hu03:Upd No h h3:=hu2.trans hu3 fun x hx=>.inr hx
  refine⟨_,rfl,sk3,eD (i:=3) o3.blk,_,rfl,_,eD (i:=1) o3.blk,?_⟩;have k4:=Upd.hnew No h3 [.pointer (some kid)] bR;have b4:=bU h3 [.pointer (some kid)] bR;have z4:=iJ h3 [.pointer (some kid)] bR;have o4:=o3.upd k4 fun _ h=>h.elim
  have fin:HC PG cG [.slice sk3.a sk3.len sk3.cap,.int .i64 (wg i n3),.slice (some (aj h3)) 1 1] [.c .slice] (fun(e32:SliceV) h33=>
       ∃a34:Addr,some (⟨h.size,0,none⟩:Addr)=some a34∧
       (Wr h33 (adr (adr a34 0) 3)∧
        At (hset h33 (adr (adr a34 0) 3) (.slice e32.a e32.len e32.cap)) (fun h35=>
         ∃a36:Addr,some (⟨h.size,0,none⟩:Addr)=some a36∧
         ∃v37:Int,aP h35 (adr (adr a36 0) 1)=some (.int .u32 v37)∧
         HC PG fH [.int .u32 v37,.int .i64 i] [.c (.int .u32)] (fun(e38:Int) h39=>
          ∃a40:Addr,some (⟨h.size,0,none⟩:Addr)=some a40∧
          (Wr h39 (adr (adr a40 0) 1)∧
           At (hset h39 (adr (adr a40 0) 1) (.int .u32 e38)) (fun h41=>
            K (some ⟨h.size,0,none⟩) h41))) h35))) (hnew h3 [.pointer (some kid)] bR):=by
   generalize hnew h3 [.pointer (some kid)] bR=h4 at k4 b4 z4 o4;rw[cF h3];have hB4:=(hB3.upd k4 fun _ _ h=>h).more (M':=fun x=>B3 x∨h4.size≤x) fun x hx=>.inl hx
   have hpn:(⟨upd s.p i none,upd s.k i none⟩:Slots).k i=none:=fP;refine Nd hB4 (Ua hi bits3.nk) (by have:=yV (g:=(⟨upd s.p i none,upd s.k i none⟩:Slots).k);omega) (x:=some kid) b4 (fun e=>e.elim (fun e=>by have:=(hBm3 _ e).2.2;omega) fun e=>by omega) (fun x hx=>.inr hx) fun s5 h5 ho5 hu5=>?_
   rw[←RD hi bits3.nk hpn (some kid)]at ho5;have hbl:h.size<h3.size:=bd o3.blk;have b5:=hu5.get o4.blk fun e=>e.elim (fun e=>(hBm3 _ e).2.1 rfl) fun e=>by omega
   refine⟨_,rfl,Sz (i:=3) b5 (show 3<6 by decide),Gv (i:=3) (c':=eZ d3 n3 sp3 s5 false none) b5 rfl fun h6 b6 hu6=>?_⟩
   refine⟨_,rfl,_,eD (i:=1) b6,Ob bits3.n32 hi fun w hw hwt=>?_⟩
   refine⟨_,rfl,Sz (i:=1) b6 (show 1<6 by decide),Gv (i:=1) (c':=eZ d3 w sp3 s5 false none) b6 rfl fun h7 b7 hu7=>?_⟩
   have hu57:=hu6.tr hu7;have z5:=hu5.size;have z7:=hu57.size;have ho5':=ho5.within;have e1:(⟨upd s.p i none,upd (⟨upd s.p i none,upd s.k i none⟩:Slots).k i (some (some kid))⟩:Slots)=⟨upd s.p i none,upd s.k i (some (some kid))⟩:=by rw[Oc]
   have o7:OwnN (fun x=>h.size≤x) h7 h.size d3 w sp3 s5 ⟨upd s.p i none,upd s.k i (some (some kid))⟩ none:=by
    rw[←e1];refine⟨b7,⟨bits3.d32,hw,bits3.dp,fun c hc=>?_⟩,⟨A3,fun x=>(B3 x∨h4.size≤x)∧x<h5.size,((hA3.upd k4 fun _ _ h=>h).upd hu5 fun x hx e=>?_).upd hu57 fun x hx e=>(hAm3 x hx).2.2.1 e,ho5'.upd hu57 fun x hx e=>?_,fun x hx=>⟨(hAm3 x hx).1,?_,(hAm3 x hx).2.2.1,by have:=(hAm3 x hx).2.2.2;omega⟩,fun x hx=>⟨?_,?_,by omega⟩⟩,o.mb⟩
    ·rw[hwt,bits3.nk c hc];simp only[upd];split<;>simp[*]
    ·rcases e with e|e
     ·exact(hAm3 x hx).2.1 e
     ·have:=(hAm3 x hx).2.2.2;omega
    ·have e:x=h.size:=e
     rcases hx.1 with h|h
     ·exact(hBm3 x h).2.1 e
     ·omega
    ·rintro⟨h|h,_⟩
     ·exact(hAm3 x hx).2.1 h
     ·have:=(hAm3 x hx).2.2.2;omega
    ·rcases hx.1 with h|h
     ·exact(hBm3 x h).1
     ·omega
    ·rcases hx.1 with h|h
     ·exact(hBm3 x h).2.1
     ·omega
   refine hk _ _ (o7.node hMW) (((hu03.tr k4).trans hu5 fun x hx=>.inr ?_).trans hu57 fun x hx=>.inr ?_)
   ·rcases hx with h|h
    ·exact(hBm3 x h).1
    ·omega
   ·have hx:x=h.size:=hx
    omega
  refine⟨rz bits3.n32 hi ⟨eD (i:=3) o3.blk,bq ⟨eD (i:=3) o4.blk,fin⟩⟩,bq ⟨eD (i:=1) o4.blk,eD (i:=3) o4.blk,rz bits3.n32 hi ⟨eD (i:=3) o4.blk,fin⟩⟩⟩
end Go.Proofs
namespace Go.Proofs
open Go.Lift
theorem O0{h:ad}{b d n:Nat}{sp sk:SliceV}{bu:Bool}{ow:Option Addr}(hb:h[b]? =some (.cells (eZ d n sp sk bu ow) bw (0,0))) {K:Int→ad→Prop} (hk:K (d:Int) h):HC PG nH [.pointer (some ⟨b,0,none⟩)] [.c (.int .u32)] K h:=by
 refine CL _ ?_;unfold vV iI;exact ag.2 ⟨_,rfl,_,eD (i:=0) hb,hk⟩
theorem Fb{h:ad}{b d n:Nat}{sp sk:SliceV}{bu:Bool}{ow:Option Addr}(hb:h[b]? =some (.cells (eZ d n sp sk bu ow) bw (0,0))) {K:Int→ad→Prop} (hk:K (n:Int) h):HC PG jU [.pointer (some ⟨b,0,none⟩)] [.c (.int .u32)] K h:=by
 refine Bl _ ?_;unfold uL iI;exact ag.2 ⟨_,rfl,_,eD (i:=1) hb,hk⟩
theorem gR{h:ad}{b d n:Nat}{sp sk:SliceV}{bu:Bool}{ow:Option Addr}(hb:h[b]? =some (.cells (eZ d n sp sk bu ow) bw (0,0))) {K:Bool→ad→Prop} (hk:K bu h):HC PG dF [.pointer (some ⟨b,0,none⟩)] [.c .bool] K h:=by
 refine yc _ ?_;unfold rY be;exact ax.2 ⟨_,rfl,_,eD (i:=4) hb,hk⟩
def Rx(o:Option Pr):Pr:=o.getD (⟨#[]⟩,⟨#[]⟩)
theorem Dj{h:ad}{b:Nat}{q p:Pr}(hb:h[b]? =some (.cells #[.string q.1,.string q.2] af (0,0))) {k:ad→Prop}
  (hk:∀h',h'[b]? =some (.cells #[.string p.1,.string p.2] af (0,0))→Upd (· =b) h h'→k h'):qL h (some ⟨b,0,none⟩) 0 [.string p.1,.string p.2]∧At (ff h ⟨b,0,none⟩ 0 [.string p.1,.string p.2]) k:=by
 have e:=jk [.string p.1,.string p.2] h 0 0 [.string q.1,.string q.2] hb (by simp);refine⟨.inr ⟨_,rfl,fun j hj=>by rw[ce];exact iA hb (by simp at hj⊢;omega)⟩,bq ?_⟩
 rw[e];refine hk _ ?_ (Upd.set h _ rfl);rw[ja hb];rfl
theorem AB{W:Nat→Prop}{h:ad}{b:Nat}{s:Slots}(nd:NodeAt W h b s){i:Nat}(hi:i<32){K:Pr×Bool→ad→Prop}(hk:∀h',Upd No h h'→K (Rx (s.p i),(s.p i).isSome) h'):
  HC PG jl [.pointer (some ⟨b,0,none⟩),.int .i64 i] [.agg [.str,.str],.c .bool] K h:=by
 refine CI _ i ?_;unfold vT bZ ay cU bW bT jG av oT iI pe kI;obtain⟨d,n,sp,sk,ow,hb,bits,hsp,hsk,hcp,hck⟩:=nd.ex;have k1:=Upd.hnew No h [.string (⟨#[]⟩:ByteArray),.string (⟨#[]⟩:ByteArray)] af;have b1:=bU h [.string (⟨#[]⟩:ByteArray),.string (⟨#[]⟩:ByteArray)] af;refine bq ?_;simp only[cF h];generalize hnew h [.string (⟨#[]⟩:ByteArray),.string (⟨#[]⟩:ByteArray)] af=h1 at k1 b1
 have hb1:=k1.get0 hb;have b1':h1[h.size]? =some (.cells #[.string L3.1,.string L3.2] af (0,0)):=b1;refine O0 hb1 (Ci bits.d32 hi ?_);rw[bits.dp i hi];cases hp:s.p i with
 |none=>
  rw[hp]at hk;refine ax.2 (Dj (p:=L3) b1' fun h2 b2 hu2=>⟨_,by rw[ce,bf b2];rfl,_,by rw[ce,bf b2];rfl,hk _ (k1.trans hu2 fun x hx=>.inr (eC hx.symm))⟩)
 |some y=>
  rw[hp]at hk;refine ag.2 ⟨_,rfl,sp,eD (i:=2) hb1,_,rfl,_,eD (i:=0) hb1,rz bits.d32 hi ⟨eD (i:=2) hb1,?_⟩⟩;have hlt:=HQ hi bits.dp hp;have hsp1:=hsp.upd k1 fun _ h=>h.elim
  obtain⟨a,ha,_,hv⟩:=hsp1.at (RF hi bits.dp hp);have hlen:=hsp.len;refine⟨by omega,a,ha,y.1,hv 0 _ rfl,y.2,hv 1 _ rfl,?_⟩;refine Dj (p:=y) b1' fun h2 b2 hu2=>⟨_,by rw[ce,bf b2];rfl,_,by rw[ce,bf b2];rfl,hk _ (k1.trans hu2 fun x hx=>.inr (eC hx.symm))⟩
theorem wA{W:Nat→Prop}{h:ad}{b:Nat}{s:Slots}(nd:NodeAt W h b s){i:Nat}(hi:i<32){K:Option Addr×Bool→ad→Prop}(hk:K ((s.k i).getD none,(s.k i).isSome) h):
  HC PG gT [.pointer (some ⟨b,0,none⟩),.int .i64 i] [.c .ptr,.c .bool] K h:=by
 refine D9 _ i ?_;unfold xm aL bZ bW bT iI pe kI;obtain⟨d,n,sp,sk,ow,hb,bits,hsp,hsk,hcp,hck⟩:=nd.ex;refine Fb hb (Ci bits.n32 hi ?_);rw[bits.nk i hi];cases hp:s.k i with
 |none=>rw[hp]at hk;exact ax.2 hk
 |some y=>
  rw[hp]at hk;refine ag.2 ⟨_,rfl,sk,eD (i:=3) hb,_,rfl,_,eD (i:=1) hb,rz bits.n32 hi ⟨eD (i:=3) hb,?_⟩⟩;have hlt:=HQ hi bits.nk hp;obtain⟨a,ha,_,hv⟩:=hsk.at (RF hi bits.nk hp);have hlen:=hsk.len;exact⟨by omega,a,ha,y,hv 0 _ rfl,hk⟩
theorem th{W:Nat→Prop}{h:ad}{b d n:Nat}{sp sk:SliceV}{bu:Bool}{ow:Option Addr}{l:List Pr}(hb:h[b]? =some (.cells (eZ d n sp sk bu ow) bw (0,0))) (hs:Sl eh 2 W h sp l) (hn:l.length≤1000000000) {K:SliceV→ad→Prop}
  (hk:∀s' h',OwnS eh 2 af (fun x=>h.size≤x) h' s' l→Upd No h h'→K s' h'):HC PG eN [.pointer (some ⟨b,0,none⟩)] [.c .slice] K h:=by
 refine uw _ ?_;unfold qs bW;exact ag.2 ⟨_,rfl,sp,eD (i:=2) hb,vD hs (by omega) hk⟩
theorem OO{W:Nat→Prop}{h:ad}{b d n:Nat}{sp sk:SliceV}{bu:Bool}{ow:Option Addr}{l:List (Option Addr)}(hb:h[b]? =some (.cells (eZ d n sp sk bu ow) bw (0,0))) (hs:Sl rM 1 W h sk l) (hn:l.length≤1000000000) {K:SliceV→ad→Prop}
  (hk:∀s' h',OwnS rM 1 bR (fun x=>h.size≤x) h' s' l→Upd No h h'→K s' h'):HC PG nG [.pointer (some ⟨b,0,none⟩)] [.c .slice] K h:=by
 refine vI _ ?_;unfold rk bW;exact ag.2 ⟨_,rfl,sk,eD (i:=3) hb,Cr hs (by omega) hk⟩
structure BuckAt(W:Nat→Prop)(h:ad)(b:Nat)(l:List Pr):Prop where
 ex:∃sp sk ow,h[b]? =some (.cells (eZ 0 0 sp sk true ow) bw (0,0))∧Sl eh 2 W h sp l∧Sl rM 1 W h sk []∧sp.len≤sp.cap∧sk.len≤sk.cap
 nw:¬W b
theorem BuckAt.upd{W M:Nat→Prop}{h h':ad}{b:Nat}{l:List Pr}(n:BuckAt W h b l)(k:Upd M h h')(hm:∀b,M b→W b∨h.size≤b):BuckAt W h' b l:=by
 obtain⟨sp,sk,ow,h1,h3,h4,h5,h6⟩:=n.ex;exact⟨⟨sp,sk,ow,k.get h1 (fun hb=>(hm _ hb).elim n.nw fun h=>by have:=bd h1;omega),h3.upd k hm,h4.upd k hm,h5,h6⟩,n.nw⟩
theorem Rw{W:Nat→Prop}{h:ad}{b:Nat}{l:List Pr}(bk:BuckAt W h b l)(hr:bj l)(hn:l.length≤1000000000)(k:ByteArray){K:ByteArray×Bool→ad→Prop}
  (hk:∀h' v,Upd No h h'→(cp l k=true→(k,v)∈l)→(cp l k=false→v=⟨#[]⟩)→K (v,cp l k) h'):HC PG rh [.pointer (some ⟨b,0,none⟩),.string k] [.c .str,.c .bool] K h:=by
 refine NX _ k ?_;unfold Gg bZ ay qQ iV;obtain⟨sp,sk,ow,hb,hsp,hsk,hc1,hc2⟩:=bk.ex;refine th hb hsp hn fun s1 h1 ho1 hu1=>?_
 have hs1:Sl eh 2 No h1 s1 l:=ho1.sl fun _ _ _ h=>h
 refine Ja hs1 hr hn k fun h2 hu2=>?_
 cases ht:cp l k with
 |false=>rw[ht]at hk;exact ax.2 (hk _ _ (hu1.tr hu2) (fun h=>by cases h) fun _=>rfl)
 |true=>
  rw[ht]at hk;obtain⟨hlt,e⟩:=IK hr ht;obtain⟨a,ha,_,hv⟩:=(hs1.upd hu2 fun _ h=>h.elim).at (ai hlt)
  have hlen:=hs1.len;refine ag.2 ⟨by simp only;omega,a,ha,_,hv 1 _ rfl,hk _ _ (hu1.tr hu2) (fun _=>?_) fun h=>by cases h⟩
  have:(k,l[pg l k].2)=l[pg l k]:=Prod.ext e.symm rfl;rw[this];exact bM hlt
theorem T8{W:Nat→Prop}{h:ad}{b:Nat}{l:List Pr}(bk:BuckAt W h b l)(hr:bj l)(hn:l.length≤1000000000)(k:ByteArray){K:ByteArray×Bool→ad→Prop}
 (hk:∀h' v,Upd No h h'→(cp l k=true→(k,v)∈l)→K (v,cp l k) h'):HC PG rh [.pointer (some ⟨b,0,none⟩),.string k] [.c .str,.c .bool] K h:=Rw bk hr hn k fun h' v h1 h2 _=>hk h' v h1 h2
end Go.Proofs
