/- A part of the proof that the named laws of this program answer true, whatever the input. -/
import Derived.Test.YtncppacbfagpgaaGreatDoorPart3
open List renaming length_append→ac,length_nil→aI,length_cons→ap,length_eq_zero_iff→aq,append_nil→aE,nil_append→cd,take_append_drop→aA,length_take→aD,length_drop→aV,append_assoc→ao,mem_append→bP,mem_singleton→aJ,mem_cons→az,length_singleton→aw,getElem?_eq_some_iff→aU,getElem?_eq_getElem→ae,getElem_of_mem→bX,getElem?_append_left→aW,getElem?_append_right→ax,mem_cons_of_mem→aH,mem_cons_self→au,pairwise_cons→aS
open List.Pairwise renaming nil→gk
open Nat renaming eq_zero_or_pos→ce,le_refl→ag,add_sub_cancel_left→co,sub_self→cO
namespace Go.Proofs
open Go Go.Lift
theorem qG{M:Nat→Prop}{h:ad}{s:SliceV}{A U C V B:List (Pr)}(ho:OwnS dD 2 al M h s (A++(U++(C++(V++B)))))(hn:s.len≤1000000000)(huv:U.length=V.length){a b:Nat}(ha:a=A.length)(hb:b=A.length+U.length+C.length){n:Nat}(hun:n=U.length){cmp:Value}{K:Unit→ad→Prop}
  (hk:∀h',OwnS dD 2 al M h' s (A++(V++(C++(U++B))))→Upd M h h'→K () h'):HC PG cZ [.slice s.a s.len s.cap,.int .i64 a,.int .i64 b,.int .i64 n,cmp] [] K h:=by
 subst ha hb hun;refine lP s A.length (A.length+U.length+C.length:Nat) U.length cmp ?_;unfold gM bR cn im lC;have hlen:=ho.len;simp only[ac]at hlen;refine LoopP.ghost (fun(g:(List (Pr)×List (Pr))×List (Pr)×List (Pr)) (t:Int) h'=>t=(g.1.1.length:Int)∧U=g.1.1++g.1.2∧V=g.2.1++g.2.2∧g.1.1.length=g.2.1.length∧OwnS dD 2 al M h' s (A++(g.2.1++(g.1.2++(C++(g.1.1++(g.2.2++B))))))∧Upd M h h') (fun g=>g.1.2.length) (([],U),[],V)
  ⟨rfl,rfl,rfl,rfl,ho,Upd.refl _ _⟩ ?_
 rintro I ⟨⟨U1,U2⟩,V1,V2⟩ t h' ⟨e1,e2,e3,hl,ho',hu⟩ hI;simp only at e1 e2 e3 hl ho';subst e1 e2 e3;simp only[ac]at huv hlen;refine av (fun hlt=>?_) fun hge=>?_
 ·simp only[ac]at hlt
  match U2,V2 with
  | [],_=>simp only[aI]at hlt;omega
  |_::_,[]=>simp only[aI,ap]at huv;omega
  |u::U2,v::V2=>
   simp only[ap]at huv hlen;simp only[ac,ap];have ew1:IntKind.wrap .i64 (((A.length+(U1.length+(U2.length+1))+C.length:Nat):Int)+(U1.length:Int))=((A.length+(U1.length+(U2.length+1))+C.length+U1.length:Nat):Int):=by rw[fL (by omega)];omega
   have ew2:IntKind.wrap .i64 ((A.length:Int)+(U1.length:Int))=((A.length+U1.length:Nat):Int):=by rw[fL (by omega)];omega
   rw[ew1,ew2];have f1:A++(V1++((u::U2)++(C++(U1++((v::V2)++B)))))=(A++V1)++u::(U2++(C++(U1++(v::V2++B)))):=by simp
   have f2:(A++V1)++u::(U2++(C++(U1++(v::V2++B))))=((A++V1)++u::(U2++(C++U1)))++v::(V2++B):=by simp
   have f3:(A++V1)++v::(U2++(C++(U1++(v::V2++B))))=((A++V1)++v::(U2++(C++U1)))++v::(V2++B):=by simp
   have f4:((A++V1)++v::(U2++(C++U1)))++u::(V2++B)=A++((V1++ [v])++(U2++(C++((U1++ [u])++(V2++B))))):=by simp
   rw[f1]at ho';obtain⟨a,ha,hu1⟩:=fj ho' (i:=A.length+U1.length) (by rw[ac];omega);have ho'':=ho';rw[f2]at ho'';obtain⟨a',ha',hv1⟩:=fj ho'' (i:=A.length+(U1.length+(U2.length+1))+C.length+U1.length) (by simp only[ac,ap];omega);rw[ha]at ha';cases ha';refine⟨⟨by omega,by omega⟩,a,ha,v.1,hv1 0 _ rfl,v.2,hv1 1 _ rfl,⟨by omega,by omega⟩,a,ha,u.1,hu1 0 _ rfl,u.2,hu1 1 _ rfl,⟨by omega,by omega⟩,a,ha,?_⟩
   refine jR ho' v ha (by rw[ac];omega) fun h2 o2 k2=>⟨⟨by omega,by omega⟩,a,ha,?_⟩
   rw[f3]at o2;refine jR o2 u ha (by first|omega|(simp;done)|(simp;omega)) fun h3 o3 k3=>?_
   rw[f4]at o3;rw[iG (n:=U1.length+(U2.length+1)) (by omega) (by omega)];exact hI ((U1++ [u],U2),V1++ [v],V2) _ _ ⟨by simp,by simp,by simp,by simp[hl],o3,(hu.trans k2 fun b hb=>.inl hb).trans k3 fun b hb=>.inl hb⟩ (by simp)
 ·simp only[ac]at hge
  have h1:U2= []:=aq.1 (by omega);have h2:V2= []:=aq.1 (by rw[h1,aI]at huv;omega);subst h1 h2;simp only[aE,cd]at ho' hk;exact hk h' ho' hu
theorem Hd{M:Nat→Prop}{h:ad}{s:SliceV}{A U V B:List (Pr)}(ho:OwnS dD 2 al M h s (A++(U++(V++B))))(hn:s.len≤1000000000)(hU:0<U.length)(hV:0<V.length){a m b:Nat}(ha:a=A.length)(hm:m=A.length+U.length)(hb:b=A.length+U.length+V.length){cmp:Value}{K:Unit→ad→Prop}
  (hk:∀h',OwnS dD 2 al M h' s (A++(V++(U++B)))→Upd M h h'→K () h'):HC PG ft [.slice s.a s.len s.cap,.int .i64 a,.int .i64 m,.int .i64 b,cmp] [] K h:=by
 subst ha hm hb;refine m4 s A.length (A.length+U.length:Nat) (A.length+U.length+V.length:Nat) cmp ?_;unfold iz;have hlen:=ho.len;simp only[ac]at hlen;have e1:IntKind.wrap .i64 (((A.length+U.length:Nat):Int)-(A.length:Int))=(U.length:Int):=by rw[fL (by omega)];omega
 have e2:IntKind.wrap .i64 (((A.length+U.length+V.length:Nat):Int)-((A.length+U.length:Nat):Int))=(V.length:Int):=by rw[fL (by omega)];omega
 rw[e1,e2];refine LoopP.ghost (fun(g:(List (Pr)×List (Pr))×List (Pr)×List (Pr)) (t:Int×Int) h'=>t.1=(g.1.2.length:Int)∧t.2=(g.2.1.length:Int)∧0<g.1.2.length∧0<g.2.1.length∧A.length+U.length=g.1.1.length+g.1.2.length∧g.1.1++(g.2.1++(g.1.2++g.2.2))=A++(V++(U++B))∧OwnS dD 2 al M h' s (g.1.1++(g.1.2++(g.2.1++g.2.2)))∧Upd M h h') (fun g=>g.1.2.length+g.2.1.length) ((A,U),V,B)
  ⟨rfl,rfl,hU,hV,rfl,rfl,ho,Upd.refl _ _⟩ ?_
 rintro I ⟨⟨A',U'⟩,V',B'⟩ ⟨ti,tj⟩ h' ⟨e1,e2,hU',hV',hmid,htgt,ho',hu⟩ hI;simp only at e1 e2 hU' hV' hmid htgt ho';subst e1 e2;have hlen':=ho'.len;simp only[ac]at hlen';have hmm:((A.length+U.length:Nat):Int)=((A'.length+U'.length:Nat):Int):=by omega
 rw[hmm];have ew:IntKind.wrap .i64 (((A'.length+U'.length:Nat):Int)-(U'.length:Int))=(A'.length:Int):=by rw[fL (by omega)];omega
 simp only;rw[ew];refine CondP.intro (fun hne=>?_) fun heq=>?_
 ·have hne:(U'.length:Int)≠(V'.length:Int):=by simpa using hne
  refine av (fun hgt=>?_) fun hle=>?_
  ·
   have hgt:V'.length<U'.length:=by omega
   obtain⟨U1,U2,rfl,hl1⟩:∃U1 U2,U'=U1++U2∧U1.length=V'.length:=⟨U'.take V'.length,U'.drop V'.length,(aA ..).symm,by rw[aD];omega⟩
   simp only[ac]at hgt hlen' hmid hne ew;have f1:A'++((U1++U2)++(V'++B'))=A'++(U1++(U2++(V'++B'))):=by simp
   have f2:A'++(V'++(U2++(U1++B')))=(A'++V')++(U2++(U1++B')):=by simp
   rw[f1]at ho';refine qG ho' hn hl1 rfl (b:=A'.length+(U1++U2).length) (by simp only[ac];omega) (n:=V'.length) hl1.symm fun h2 o2 k2=>?_
   rw[f2]at o2;have ew2:IntKind.wrap .i64 (((U1++U2).length:Int)-(V'.length:Int))=(U2.length:Int):=by rw[ac,fL (by omega)];omega
   rw[ew2];refine hI ((A'++V',U2),U1,B') _ _ ⟨rfl,by simp only;omega,by simp only;omega,by simp only;omega,by simp only[ac];omega,?_,o2,hu.trans k2 fun b hb=>.inl hb⟩ (by simp only[ac];omega)
   rw[←htgt];simp
  ·have hlt:U'.length<V'.length:=by omega
   obtain⟨V1,V2,rfl,hl1⟩:∃V1 V2,V'=V1++V2∧V2.length=U'.length:=⟨V'.take (V'.length-U'.length),V'.drop (V'.length-U'.length),(aA ..).symm,by rw[aV];omega⟩
   simp only[ac]at hlt hlen' hne;have ew2:IntKind.wrap .i64 ((IntKind.wrap .i64 (((A'.length+U'.length:Nat):Int)+((V1++V2).length:Int)))-(U'.length:Int))=((A'.length+U'.length+V1.length:Nat):Int):=by
    rw[ac,fL (x:=((A'.length+U'.length:Nat):Int)+((V1.length+V2.length:Nat):Int)) (by omega),fL (by omega)];omega
   rw[ew2];have f1:A'++(U'++((V1++V2)++B'))=A'++(U'++(V1++(V2++B'))):=by simp
   rw[f1]at ho';refine qG ho' hn hl1.symm rfl rfl rfl fun h2 o2 k2=>?_
   have ew3:IntKind.wrap .i64 (((V1++V2).length:Int)-(U'.length:Int))=(V1.length:Int):=by rw[ac,fL (by omega)];omega
   rw[ew3];refine hI ((A',V2),V1,U'++B') _ _ ⟨by simp only;omega,rfl,by simp only;omega,by simp only;omega,by simp only;omega,?_,o2,hu.trans k2 fun b hb=>.inl hb⟩ (by simp only[ac];omega)
   rw[←htgt];simp
 ·have heq:(U'.length:Int)=(V'.length:Int):=by simpa using heq
  have f1:A'++(U'++(V'++B'))=A'++(U'++([]++(V'++B'))):=by simp
  rw[f1]at ho';refine qG ho' hn (by omega) rfl (b:=A'.length+U'.length) (by simp) rfl fun h2 o2 k2=>?_
  rw[cd,htgt]at o2;exact hk h2 o2 (hu.trans k2 fun b hb=>.inl hb)
theorem yY{lt:Pr→Pr→Bool}(w:WO lt){M:Nat→Prop}{Iv:ad→Prop}{cmp:Value}(hc:Cmp lt dD M Iv cmp){h:ad}{s:SliceV}{A S B:List (Pr)}(ho:OwnS dD 2 al M h s (A++(S++B)))(hi:Iv h)(hn:s.len≤1000000000){a b:Nat}(ha:a=A.length)(hb:b=A.length+S.length){K:Unit→ad→Prop}
  (hk:∀h' R,OwnS dD 2 al M h' s (A++(R++B))→St lt S R→Upd M h h'→K () h'):HC PG dq [.slice s.a s.len s.cap,.int .i64 a,.int .i64 b,cmp] [] K h:=by
 subst ha hb;refine j9 s A.length (A.length+S.length:Nat) cmp ?_;unfold fR bR cn bV aL im xM lC;have hlen:=ho.len;simp only[ac]at hlen;have ea:IntKind.wrap .i64 ((A.length:Int)+1)=((A.length+1:Nat):Int):=by rw[fL (by omega)];omega
 rw[ea];refine LoopP.ghost (fun(g:List (Pr)×List (Pr)×List (Pr)) (t:Int) h'=>t=((A.length+max 1 g.1.length:Nat):Int)∧S=g.1++g.2.2∧(g.1= []→g.2.2= [])∧St lt g.1 g.2.1∧OwnS dD 2 al M h' s (A++(g.2.1++(g.2.2++B)))∧Upd M h h') (fun g=>g.2.2.length) (S.take 1,S.take 1,S.drop 1)
  ⟨?_,(aA ..).symm,fun e=>?_,⟨Eqf.rfl _,?_⟩,by rw[←ao (S.take 1),aA];exact ho,Upd.refl _ _⟩ ?_
 ·simp only[aD];omega
 ·have:=congrArg List.length e
  simp only[aD,aI]at this;exact aq.1 (by simp only[aV];omega)
 ·match S with
  | []=>exact Srt.nil
  |x::S=>exact Srt.one x
 rintro I ⟨S1,R1,T⟩ t h' ⟨e1,e2,hemp,hst,ho',hu⟩ hI;simp only at e1 e2 hemp hst ho';subst e1 e2;simp only[ac]at hlen;have hR1:=hst.eqf.len;refine av (fun hlt=>?_) fun hge=>?_
 ·simp only[ac]at hlt
  have hS1:S1≠[]:=fun e=>by
   have:=hemp e;subst e;subst this;simp only[aI]at hlt;omega
  have hS1l:0<S1.length:=List.length_pos_iff.2 hS1;match T with
  | []=>simp only[aI]at hlt;omega
  |x::T=>
   have emax:A.length+max 1 S1.length=A.length+S1.length:=by omega
   rw[emax];refine LoopP.ghost (fun(g:List (Pr)×List (Pr)) (t:Int) h2=>t=((A.length+g.1.length:Nat):Int)∧R1=g.1++g.2∧(∀y∈g.2,lt x y=true)∧OwnS dD 2 al M h2 s (A++(g.1++(x::(g.2++(T++B)))))∧Upd M h h2) (fun g=>g.1.length) (R1,[])
    ⟨by simp only;omega,by simp,fun y hy=>(by cases hy),by simpa using ho',hu⟩ ?_
   rintro I2 ⟨L,G⟩ t2 h2 ⟨e1,e2,hG,ho2,hu2⟩ hI2;simp only at e1 e2 hG ho2;subst e1 e2;simp only[ac]at hR1;simp only[ap]at hlen;refine Join.intro (fun t h3=>Upd M h h3∧OwnS dD 2 al M h3 s (A++(L++(x::(G++(T++B)))))∧(t=true→∃L' y,L=L'++ [y]∧lt x y=true)∧(t=false→∀y∈L,lt x y=false)) (fun Rj hRj=>?_) ?_
   ·refine av (fun hgt=>?_) fun hle=>?_
    ·rcases zX L with rfl|⟨L',y,rfl⟩
     ·simp only[aI]at hgt;omega
     have hlL:(L'++ [y]).length=L'.length+1:=by simp
     have ew:IntKind.wrap .i64 (((A.length+(L'++ [y]).length:Nat):Int)-1)=((A.length+L'.length:Nat):Int):=by rw[hlL,fL (by omega)];omega
     rw[ew];have f1:A++((L'++ [y])++(x::(G++(T++B))))=(A++L')++y::(x::(G++(T++B))):=by simp
     have f2:A++((L'++ [y])++(x::(G++(T++B))))=(A++(L'++ [y]))++x::(G++(T++B)):=by simp
     have o3:=ho2;have o4:=ho2;rw[f1]at o3;rw[f2]at o4;obtain⟨a,ha,hy⟩:=fj o3 (i:=A.length+L'.length) (by first|omega|(simp;done)|(simp;omega))
     obtain⟨a',ha',hx⟩:=fj o4 (i:=A.length+(L'++ [y]).length) (by first|omega|(simp;done)|(simp;omega))
     rw[ha]at ha';cases ha';refine⟨⟨by omega,by omega⟩,a,ha,x.1,hx 0 _ rfl,x.2,hx 1 _ rfl,⟨by omega,by omega⟩,a,ha,y.1,hy 0 _ rfl,y.2,hy 1 _ rfl,?_⟩
     refine hc.call x y (hc.step hu2 hi) fun h5 e k5 he=>?_
     rw[he];have ho5:=ho2.upd k5 fun _ _ h=>h
     refine hRj _ _ ⟨hu2.tr k5.wide,ho5,fun h=>⟨L',y,rfl,h⟩,fun h z hz=>?_⟩
     have hs:=hst.srt.left;rcases bP.1 hz with hz|hz
     ·exact w.ntr x y z h (hs.cross z hz y (aJ.2 rfl))
     ·rw[aJ.1 hz];exact h
    ·have hL:L= []:=aq.1 (by omega)
     exact hRj _ _ ⟨hu2,ho2,fun h=>(by cases h),fun _ y hy=>(by rw[hL]at hy;cases hy)⟩
   ·rintro t3 h3 ⟨hu3,ho3,ht,hf⟩
    cases t3 with
    |true=>
     obtain⟨L',y,rfl,hxy⟩:=ht rfl;have hlL:(L'++ [y]).length=L'.length+1:=by simp
     refine aB.2 ?_;have ew:IntKind.wrap .i64 (((A.length+(L'++ [y]).length:Nat):Int)-1)=((A.length+L'.length:Nat):Int):=by rw[hlL,fL (by omega)];omega
     rw[ew];have f1:A++((L'++ [y])++(x::(G++(T++B))))=(A++L')++y::(x::(G++(T++B))):=by simp
     have f2:(A++L')++y::(x::(G++(T++B)))=(A++(L'++ [y]))++x::(G++(T++B)):=by simp
     have f3:(A++(L'++ [y]))++y::(G++(T++B))=(A++L')++y::(y::(G++(T++B))):=by simp
     have f4:(A++L')++x::(y::(G++(T++B)))=A++(L'++(x::((y::G)++(T++B)))):=by simp
     rw[f1]at ho3;have o4:=ho3;rw[f2]at o4;obtain⟨a,ha,hy⟩:=fj ho3 (i:=A.length+L'.length) (by first|omega|(simp;done)|(simp;omega))
     obtain⟨a',ha',hx⟩:=fj o4 (i:=A.length+(L'++ [y]).length) (by first|omega|(simp;done)|(simp;omega))
     rw[ha]at ha';cases ha';refine⟨⟨by omega,by omega⟩,a,ha,y.1,hy 0 _ rfl,y.2,hy 1 _ rfl,⟨by omega,by omega⟩,a,ha,x.1,hx 0 _ rfl,x.2,hx 1 _ rfl,⟨by omega,by omega⟩,a,ha,?_⟩
     refine jR o4 y ha (by first|omega|(simp;done)|(simp;omega)) fun h5 o5 k5=>⟨⟨by omega,by omega⟩,a,ha,?_⟩
     rw[f3]at o5;refine jR o5 x ha (by first|omega|(simp;done)|(simp;omega)) fun h6 o6 k6=>?_
     rw[f4]at o6;refine hI2 (L',y::G) _ _ ⟨rfl,by simp,fun z hz=>?_,o6,(hu3.trans k5 fun b hb=>.inl hb).trans k6 fun b hb=>.inl hb⟩ (by simp only[hlL];omega)
     rcases az.1 hz with rfl|hz
     ·exact hxy
     ·exact hG z hz
    |false=>
     refine aj.2 ?_;have ew:IntKind.wrap .i64 (((A.length+S1.length:Nat):Int)+1)=((A.length+max 1 (S1.length+1):Nat):Int):=by rw[fL (by omega)];omega
     rw[ew];refine hI (S1++ [x],L++x::G,T) _ _ ⟨by simp,by simp,fun e=>(by simp at e),G4 w hst (hf rfl) hG,?_,hu3⟩ (by simp)
     have f1:A++((L++x::G)++(T++B))=A++(L++(x::(G++(T++B)))):=by simp
     rw[f1];exact ho3
 ·simp only[ac]at hge
  have hT:T= []:=by
   rcases ce S1.length with h0|h0
   ·exact hemp (aq.1 h0)
   ·exact aq.1 (by omega)
  subst hT;rw[cd]at ho';rw[aE]at hk;exact hk h' R1 ho' hst hu
theorem wr{lt:Pr→Pr→Bool}(w:WO lt){M:Nat→Prop}{Iv:ad→Prop}{cmp:Value}(hc:Cmp lt dD M Iv cmp){s:SliceV}(hn:s.len≤1000000000):∀(n:Nat) {h:ad} {A U V B:List (Pr)},U.length+V.length≤n→OwnS dD 2 al M h s (A++(U++(V++B)))→Iv h→0<U.length→0<V.length→Srt lt U→Srt lt V→∀{a m b:Nat},a=A.length→m=A.length+U.length→b=A.length+U.length+V.length→∀{K:Unit→ad→Prop},
  (∀h' R,OwnS dD 2 al M h' s (A++(R++B))→St lt (U++V) R→Upd M h h'→K () h')→HC PG cF [.slice s.a s.len s.cap,.int .i64 a,.int .i64 m,.int .i64 b,cmp] [] K h:=by
 intro n;induction n with
 |zero=>intro h A U V B hl _ _ hU;omega
 |succ n ih=>
  intro h A U V B hl ho hi hU hV sU sV a m b ha hm hb K hk;refine mp s a m b cmp ?_;unfold g7 bR cn bV aL im xM lC;have hlen:=ho.len;simp only[ac]at hlen;have e1:IntKind.wrap .i64 ((m:Int)-(a:Int))=(U.length:Int):=by rw[fL (by omega)];omega
  have e2:IntKind.wrap .i64 ((b:Int)-(m:Int))=(V.length:Int):=by rw[fL (by omega)];omega
  rw[e1,e2];refine CondP.intro (fun hone=>?_) fun hmore=>?_
  ·have hone:U.length=1:=by have:=eq_of_beq hone;omega
   match U,hone with
   | [u],_=>
   simp only[aw]at hlen hm hb;refine LoopP.ghost (fun(g:Nat×Nat) (t:Int×Int) h'=>t.1=(g.1:Int)∧t.2=(g.2:Int)∧m≤g.1∧g.1≤g.2∧g.2≤b∧(∀q x,V[q]? =some x→m+q<g.1→lt x u=true)∧(∀q x,V[q]? =some x→g.2≤m+q→lt x u=false)∧OwnS dD 2 al M h' s (A++([u]++(V++B)))∧Upd M h h') (fun g=>g.2-g.1) (m,b)
    ⟨rfl,rfl,ag _,by simp only;omega,ag _,fun q x hq h=>(by simp only at h;omega),fun q x hq h=>(by have:=(aU.1 hq).1;simp only at h;omega),ho,Upd.refl _ _⟩ ?_
   rintro I ⟨i,j⟩ ⟨ti,tj⟩ h' ⟨e1,e2,hmi,hij,hjb,hlo,hhi,ho',hu⟩ hI;simp only at e1 e2 hmi hij hjb hlo hhi;subst e1 e2;refine av (fun hlt=>?_) fun hge=>?_
   ·have hlt:i<j:=by have:(i:Int)<(j:Int):=hlt;omega
    refine⟨by decide,?_⟩;simp only[Bd];rw[qd (by omega)];have hk1:(i+j)/2-m<V.length:=by omega
    have hk0:(i+j)/2=A.length+1+((i+j)/2-m):=by omega
    obtain⟨a1,ha1,hx⟩:=nP ho' (i:=(i+j)/2) (x:=V[(i+j)/2-m]) (Es (U:= [u]) (k:=(i+j)/2-m) (by simp only[aw];omega) (ae hk1));obtain⟨a2,ha2,hy⟩:=fj (P:=A) (x:=u) (Q:=V++B) ho' ha;rw[ha1]at ha2;cases ha2;have hVk:V[(i+j)/2-m]? =some V[(i+j)/2-m]:=ae hk1;generalize V[(i+j)/2-m]=x at hx hVk;refine⟨⟨by omega,by omega⟩,a1,ha1,x.1,hx 0 _ rfl,x.2,hx 1 _ rfl,⟨by omega,by omega⟩,a1,ha1,u.1,hy 0 _ rfl,u.2,hy 1 _ rfl,?_⟩
    refine hc.call x u (hc.step hu hi) fun h5 e k5 he=>?_
    rw[he];have ho5:=ho'.upd k5 fun _ _ h=>h
    have hu5:=hu.tr k5.wide;cases hxu:lt x u with
    |true=>
     refine aB.2 ?_;have ew:IntKind.wrap .i64 ((((i+j)/2:Nat):Int)+1)=(((i+j)/2+1:Nat):Int):=by rw[fL (by omega)];omega
     rw[ew];refine hI ((i+j)/2+1,j) _ _ ⟨rfl,rfl,by simp only;omega,by simp only;omega,hjb,fun q y hq hqi=>?_,hhi,ho5,hu5⟩ (by simp only;omega)
     have hle:=gC w sV (i:=q) (j:=(i+j)/2-m) (by simp only at hqi;omega) hq hVk;cases hyu:lt y u with
     |true=>rfl
     |false=>rw[w.ntr _ _ _ hle hyu]at hxu;cases hxu
    |false=>
     refine aj.2 ?_;refine hI (i,(i+j)/2) _ _ ⟨rfl,rfl,hmi,by simp only;omega,by simp only;omega,hlo,fun q y hq hqi=>?_,ho5,hu5⟩ (by simp only;omega)
     have hle:=gC w sV (i:=(i+j)/2-m) (j:=q) (by simp only at hqi;omega) hVk hq;exact w.ntr _ _ _ hle hxu
   ·have hij:i=j:=by have:¬(i:Int)<(j:Int):=hge;omega
    subst hij;obtain⟨V1,V2,rfl,hV1⟩:∃V1 V2,V=V1++V2∧V1.length=i-m:=⟨V.take (i-m),V.drop (i-m),(aA ..).symm,by rw[aD];omega⟩
    simp only[ac]at hlen hb;have lo1:∀x∈V1,lt x u=true:=fun x hx=>by
     obtain⟨q,hq,e⟩:=bX hx;exact hlo q x (by rw[aW hq,ae hq,e]) (by omega)
    have hi1:∀x∈V2,lt x u=false:=fun x hx=>by
     obtain⟨q,hq,e⟩:=bX hx;exact hhi (V1.length+q) x (by rw[ax (by omega),co,ae hq,e]) (by omega)
    have hst:=wt w sV lo1 hi1;have f0:A++([u]++((V1++V2)++B))=A++([]++(u::(V1++(V2++B)))):=by simp
    rw[f0]at ho';have ew:IntKind.wrap .i64 ((i:Int)-1)=((A.length+V1.length:Nat):Int):=by rw[fL (by omega)];omega
    rw[ew];refine LoopP.ghost (fun(g:List (Pr)×List (Pr)) (t:Int) h2=>t=((A.length+g.1.length:Nat):Int)∧V1=g.1++g.2∧OwnS dD 2 al M h2 s (A++(g.1++(u::(g.2++(V2++B)))))∧Upd M h h2) (fun g=>g.2.length) ([],V1)
     ⟨by simp[ha],rfl,ho',hu⟩ ?_
    rintro I2 ⟨G1,G2⟩ t2 h2 ⟨e1,e2,ho2,hu2⟩ hI2;simp only at e1 e2 ho2;subst e1 e2;simp only[ac]at hlen hb ew⊢;refine av (fun hlt=>?_) fun hge=>?_
    ·match G2 with
     | []=>simp only[aI]at hlt;omega
     |g::G2=>
      simp only[ap]at hlen;have ew1:IntKind.wrap .i64 (((A.length+G1.length:Nat):Int)+1)=((A.length+G1.length+1:Nat):Int):=by rw[fL (by omega)];omega
      rw[ew1];have f1:A++(G1++(u::((g::G2)++(V2++B))))=(A++G1)++u::(g::(G2++(V2++B))):=by simp
      have f2:(A++G1)++u::(g::(G2++(V2++B)))=(A++(G1++ [u]))++g::(G2++(V2++B)):=by simp
      have f3:(A++G1)++g::(g::(G2++(V2++B)))=(A++(G1++ [g]))++g::(G2++(V2++B)):=by simp
      have f4:(A++(G1++ [g]))++u::(G2++(V2++B))=A++((G1++ [g])++(u::(G2++(V2++B)))):=by simp
      rw[f1]at ho2;have o3:=ho2;rw[f2]at o3;obtain⟨a1,ha1,hy⟩:=fj o3 (i:=A.length+G1.length+1) (by first|omega|(simp;done)|(simp;omega))
      obtain⟨a2,ha2,hx⟩:=fj ho2 (i:=A.length+G1.length) (by first|omega|(simp;done)|(simp;omega))
      rw[ha1]at ha2;cases ha2;refine⟨⟨by omega,by omega⟩,a1,ha1,g.1,hy 0 _ rfl,g.2,hy 1 _ rfl,⟨by omega,by omega⟩,a1,ha1,u.1,hx 0 _ rfl,u.2,hx 1 _ rfl,⟨by omega,by omega⟩,a1,ha1,?_⟩
      refine jR ho2 g ha1 (by first|omega|(simp;done)|(simp;omega)) fun h5 o5 k5=>⟨⟨by omega,by omega⟩,a1,ha1,?_⟩
      rw[f3]at o5;refine jR o5 u ha1 (by first|omega|(simp;done)|(simp;omega)) fun h6 o6 k6=>?_
      rw[f4]at o6;exact hI2 (G1++ [g],G2) _ _ ⟨by simp;omega,by simp,o6,(hu2.trans k5 fun b hb=>.inl hb).trans k6 fun b hb=>.inl hb⟩ (by simp)
    ·have hG:G2= []:=aq.1 (by omega)
     subst hG;simp only[aE,cd]at ho2 hst hk;refine hk h2 (G1++u::V2) ?_ hst hu2;have f1:A++((G1++u::V2)++B)=A++(G1++(u::(V2++B))):=by simp
     rw[f1];exact ho2
  refine CondP.intro (fun hone=>?_) fun hmore2=>?_
  ·have hone:V.length=1:=by have:=eq_of_beq hone;omega
   match V,hone with
   | [v],_=>
   simp only[aw]at hlen hb;refine LoopP.ghost (fun(g:Nat×Nat) (t:Int×Int) h'=>t.1=(g.1:Int)∧t.2=(g.2:Int)∧a≤g.1∧g.1≤g.2∧g.2≤m∧(∀q x,U[q]? =some x→a+q<g.1→lt v x=false)∧(∀q x,U[q]? =some x→g.2≤a+q→lt v x=true)∧OwnS dD 2 al M h' s (A++(U++([v]++B)))∧Upd M h h') (fun g=>g.2-g.1) (a,m)
    ⟨rfl,rfl,ag _,by simp only;omega,ag _,fun q x hq h=>(by simp only at h;omega),fun q x hq h=>(by have:=(aU.1 hq).1;simp only at h;omega),ho,Upd.refl _ _⟩ ?_
   rintro I ⟨i,j⟩ ⟨ti,tj⟩ h' ⟨e1,e2,hmi,hij,hjb,hlo,hhi,ho',hu⟩ hI;simp only at e1 e2 hmi hij hjb hlo hhi;subst e1 e2;refine av (fun hlt=>?_) fun hge=>?_
   ·have hlt:i<j:=by have:(i:Int)<(j:Int):=hlt;omega
    refine⟨by decide,?_⟩;simp only[Bd];rw[qd (by omega)];have hk1:(i+j)/2-a<U.length:=by omega
    obtain⟨a1,ha1,hx⟩:=nP ho' (i:=(i+j)/2) (x:=U[(i+j)/2-a]) (zV (k:=(i+j)/2-a) (by omega) (ae hk1));have f1:A++(U++([v]++B))=(A++U)++v::B:=by simp
    have o3:=ho';rw[f1]at o3;obtain⟨a2,ha2,hy⟩:=fj o3 (i:=m) (by first|omega|(simp;done)|(simp;omega))
    rw[ha1]at ha2;cases ha2;have hVk:U[(i+j)/2-a]? =some U[(i+j)/2-a]:=ae hk1;generalize U[(i+j)/2-a]=x at hx hVk;refine⟨⟨by omega,by omega⟩,a1,ha1,v.1,hy 0 _ rfl,v.2,hy 1 _ rfl,⟨by omega,by omega⟩,a1,ha1,x.1,hx 0 _ rfl,x.2,hx 1 _ rfl,?_⟩
    refine hc.call v x (hc.step hu hi) fun h5 e k5 he=>?_
    rw[he];have ho5:=ho'.upd k5 fun _ _ h=>h
    have hu5:=hu.tr k5.wide;cases hxu:lt v x with
    |false=>
     refine aB.2 ?_;have ew:IntKind.wrap .i64 ((((i+j)/2:Nat):Int)+1)=(((i+j)/2+1:Nat):Int):=by rw[fL (by omega)];omega
     rw[ew];refine hI ((i+j)/2+1,j) _ _ ⟨rfl,rfl,by simp only;omega,by simp only;omega,hjb,fun q y hq hqi=>?_,hhi,ho5,hu5⟩ (by simp only;omega)
     exact w.ntr _ _ _ hxu (gC w sU (i:=q) (j:=(i+j)/2-a) (by simp only at hqi;omega) hq hVk)
    |true=>
     refine aj.2 ?_;refine hI (i,(i+j)/2) _ _ ⟨rfl,rfl,hmi,by simp only;omega,by simp only;omega,hlo,fun q y hq hqi=>?_,ho5,hu5⟩ (by simp only;omega)
     have hle:=gC w sU (i:=(i+j)/2-a) (j:=q) (by simp only at hqi;omega) hVk hq;cases hvy:lt v y with
     |true=>rfl
     |false=>rw[w.ntr _ _ _ hvy hle]at hxu;cases hxu
   ·have hij:i=j:=by have:¬(i:Int)<(j:Int):=hge;omega
    subst hij;obtain⟨U1,U2,rfl,hU1⟩:∃U1 U2,U=U1++U2∧U1.length=i-a:=⟨U.take (i-a),U.drop (i-a),(aA ..).symm,by rw[aD];omega⟩
    simp only[ac]at hlen hb hm;have lo1:∀x∈U1,lt v x=false:=fun x hx=>by
     obtain⟨q,hq,e⟩:=bX hx;exact hlo q x (by rw[aW hq,ae hq,e]) (by omega)
    have hi1:∀x∈U2,lt v x=true:=fun x hx=>by
     obtain⟨q,hq,e⟩:=bX hx;exact hhi (U1.length+q) x (by rw[ax (by omega),co,ae hq,e]) (by omega)
    have hst:=yN w sU lo1 hi1;have f0:A++((U1++U2)++([v]++B))=A++(U1++(U2++(v::([]++B)))):=by simp
    rw[f0]at ho';refine LoopP.ghost (fun(g:List (Pr)×List (Pr)) (t:Int) h2=>t=((A.length+U1.length+g.1.length:Nat):Int)∧U2=g.1++g.2∧OwnS dD 2 al M h2 s (A++(U1++(g.1++(v::(g.2++B)))))∧Upd M h h2) (fun g=>g.1.length) (U2,[])
     ⟨by simp only;omega,by simp,ho',hu⟩ ?_
    rintro I2 ⟨G1,G2⟩ t2 h2 ⟨e1,e2,ho2,hu2⟩ hI2;simp only at e1 e2 ho2;subst e1 e2;simp only[ac]at hlen hb hm⊢;refine av (fun hgt=>?_) fun hle=>?_
    ·rcases zX G1 with rfl|⟨G1',g,rfl⟩
     ·simp only[aI]at hgt;omega
     simp only[ac,aw]at hlen hb hm hgt⊢;have ew1:IntKind.wrap .i64 (((A.length+U1.length+(G1'.length+1):Nat):Int)-1)=((A.length+U1.length+G1'.length:Nat):Int):=by rw[fL (by omega)];omega
     rw[ew1];have f1:A++(U1++((G1'++ [g])++(v::(G2++B))))=(A++(U1++(G1'++ [g])))++v::(G2++B):=by simp
     have f2:(A++(U1++(G1'++ [g])))++v::(G2++B)=(A++(U1++G1'))++g::(v::(G2++B)):=by simp
     have f3:(A++(U1++(G1'++ [g])))++g::(G2++B)=(A++(U1++G1'))++g::(g::(G2++B)):=by simp
     have f4:(A++(U1++G1'))++v::(g::(G2++B))=A++(U1++(G1'++(v::((g::G2)++B)))):=by simp
     rw[f1]at ho2;have o3:=ho2;rw[f2]at o3;obtain⟨a1,ha1,hy⟩:=fj o3 (i:=A.length+U1.length+G1'.length) (by first|omega|(simp;done)|(simp;omega))
     obtain⟨a2,ha2,hx⟩:=fj ho2 (i:=A.length+U1.length+(G1'.length+1)) (by first|omega|(simp;done)|(simp;omega))
     rw[ha1]at ha2;cases ha2;refine⟨⟨by omega,by omega⟩,a1,ha1,g.1,hy 0 _ rfl,g.2,hy 1 _ rfl,⟨by omega,by omega⟩,a1,ha1,v.1,hx 0 _ rfl,v.2,hx 1 _ rfl,⟨by omega,by omega⟩,a1,ha1,?_⟩
     refine jR ho2 g ha1 (by first|omega|(simp;done)|(simp;omega)) fun h5 o5 k5=>⟨⟨by omega,by omega⟩,a1,ha1,?_⟩
     rw[f3]at o5;refine jR o5 v ha1 (by first|omega|(simp;done)|(simp;omega)) fun h6 o6 k6=>?_
     rw[f4]at o6;exact hI2 (G1',g::G2) _ _ ⟨rfl,by simp,o6,(hu2.trans k5 fun b hb=>.inl hb).trans k6 fun b hb=>.inl hb⟩ (by simp)
    ·have hG:G1= []:=aq.1 (by omega)
     subst hG;simp only[cd]at ho2 hst hk;refine hk h2 (U1++v::G2) ?_ hst hu2;have f1:A++((U1++v::G2)++B)=A++(U1++(v::(G2++B))):=by simp
     rw[f1];exact ho2
  have hU2:2≤U.length:=by
   have:(U.length:Int)≠1:=by simpa using hmore
   omega
  have hV2:2≤V.length:=by
   have:(V.length:Int)≠1:=by simpa using hmore2
   omega
  refine⟨by decide,?_⟩;simp only[Bd];rw[qd (i:=a) (j:=b) (by omega)];obtain⟨mid,hmid⟩:∃mid,(a+b)/2=mid:=⟨_,rfl⟩;rw[hmid];have em:IntKind.wrap .i64 ((mid:Int)+(m:Int))=((mid+m:Nat):Int):=by rw[fL (by omega)];omega
  rw[em];have ep:IntKind.wrap .i64 (((mid+m:Nat):Int)-1)=((mid+m-1:Nat):Int):=by rw[fL (by omega)];omega
  rw[ep];refine Join.intro (fun t h'=>h'=h∧∃s0 r0:Nat,t=((s0:Int),(r0:Int))∧a≤s0∧s0≤r0∧r0≤m∧r0≤mid∧mid+m≤b+s0∧(r0=mid∨r0=m)∧(s0=a∨s0+b=mid+m)) (fun Rj hRj=>?_) ?_
  ·refine av (fun hgt=>?_) fun hle=>?_
   ·have es:IntKind.wrap .i64 (((mid+m:Nat):Int)-(b:Int))=((mid+m-b:Nat):Int):=by rw[fL (by omega)];omega
    rw[es];exact hRj _ _ ⟨rfl,_,_,rfl,by omega,by omega,by omega,by omega,by omega,by omega,by omega⟩
   ·exact hRj _ _ ⟨rfl,_,_,rfl,by omega,by omega,by omega,by omega,by omega,by omega,by omega⟩
  rintro t h' ⟨rfl,s0,r0,rfl,hs0,hsr,hrm,hrd,hsb,hr0,hs00⟩;refine LoopP.ghost (fun(g:Nat×Nat) (t:Int×Int) h2=>t.1=(g.1:Int)∧t.2=(g.2:Int)∧s0≤g.1∧g.1≤g.2∧g.2≤r0∧(∀c x y,s0≤c→c<g.1→U[c-a]? =some x→V[mid-1-c]? =some y→lt y x=false)∧(∀c x y,g.2≤c→c<r0→U[c-a]? =some x→V[mid-1-c]? =some y→lt y x=true)∧OwnS dD 2 al M h2 s (A++(U++(V++B)))∧Upd M h' h2) (fun g=>g.2-g.1) (s0,r0)
   ⟨rfl,rfl,ag _,hsr,ag _,fun c x y h1 h2=>(by simp only at h2;omega),fun c x y h1 h2=>(by simp only at h1;omega),ho,Upd.refl _ _⟩ ?_
  rintro I ⟨i,j⟩ ⟨ti,tj⟩ h2 ⟨e1,e2,hsi,hij,hjr,hlo,hhi,ho2,hu2⟩ hI;simp only at e1 e2 hsi hij hjr hlo hhi;subst e1 e2;refine av (fun hlt=>?_) fun hge=>?_
  ·have hlt:i<j:=by have:(i:Int)<(j:Int):=hlt;omega
   refine⟨by decide,?_⟩;rw[qd (i:=i) (j:=j) (by omega)];obtain⟨c,hcc⟩:∃c,(i+j)/2=c:=⟨_,rfl⟩;rw[hcc];have hci:i≤c:=by omega
   have hcj:c<j:=by omega
   have eq:IntKind.wrap .i64 (((mid+m-1:Nat):Int)-(c:Int))=((mid+m-1-c:Nat):Int):=by rw[fL (by omega)];omega
   rw[eq];have hk1:c-a<U.length:=by omega
   have hk2:mid-1-c<V.length:=by omega
   obtain⟨a1,ha1,hx⟩:=nP ho2 (i:=c) (x:=U[c-a]) (zV (k:=c-a) (by omega) (ae hk1));obtain⟨a2,ha2,hy⟩:=nP ho2 (i:=mid+m-1-c) (x:=V[mid-1-c]) (Es (k:=mid-1-c) (by omega) (ae hk2));rw[ha1]at ha2;cases ha2;have hUc:U[c-a]? =some U[c-a]:=ae hk1;have hVc:V[mid-1-c]? =some V[mid-1-c]:=ae hk2;generalize U[c-a]=x at hx hUc
   generalize V[mid-1-c]=y at hy hVc;refine⟨⟨by omega,by omega⟩,a1,ha1,y.1,hy 0 _ rfl,y.2,hy 1 _ rfl,⟨by omega,by omega⟩,a1,ha1,x.1,hx 0 _ rfl,x.2,hx 1 _ rfl,?_⟩
   refine hc.call y x (hc.step hu2 hi) fun h5 e k5 he=>?_
   rw[he];have ho5:=ho2.upd k5 fun _ _ h=>h
   have hu5:=hu2.tr k5.wide;cases hyx:lt y x with
   |false=>
    refine aB.2 ?_;have ew:IntKind.wrap .i64 ((c:Int)+1)=((c+1:Nat):Int):=by rw[fL (by omega)];omega
    rw[ew];refine hI (c+1,j) _ _ ⟨rfl,rfl,by simp only;omega,by simp only;omega,hjr,fun c' x' y' h1 h2 hx' hy'=>?_,hhi,ho5,hu5⟩ (by simp only;omega)
    simp only at h2;have q1:=gC w sU (i:=c'-a) (j:=c-a) (by omega) hx' hUc;have q2:=gC w sV (i:=mid-1-c) (j:=mid-1-c') (by omega) hVc hy';exact w.ntr _ _ _ (w.ntr _ _ _ q2 hyx) q1
   |true=>
    refine aj.2 ?_;refine hI (i,c) _ _ ⟨rfl,rfl,hsi,hci,by simp only;omega,hlo,fun c' x' y' h1 h2 hx' hy'=>?_,ho5,hu5⟩ (by simp only;omega)
    simp only at h1;have q1:=gC w sU (i:=c-a) (j:=c'-a) (by omega) hUc hx';have q2:=gC w sV (i:=mid-1-c') (j:=mid-1-c) (by omega) hy' hVc;cases hyx':lt y' x' with
    |true=>rfl
    |false=>rw[w.ntr _ _ _ (w.ntr _ _ _ q2 hyx') q1]at hyx;cases hyx
  have hij:i=j:=by have:¬(i:Int)<(j:Int):=hge;omega
  subst hij;have en:IntKind.wrap .i64 (((mid+m:Nat):Int)-(i:Int))=((mid+m-i:Nat):Int):=by rw[fL (by omega)];omega
  simp only;rw[en];obtain⟨U1,U2,eU,hU1⟩:∃U1 U2,U=U1++U2∧U1.length=i-a:=⟨U.take (i-a),U.drop (i-a),(aA ..).symm,by rw[aD];omega⟩
  obtain⟨V1,V2,eV,hV1⟩:∃V1 V2,V=V1++V2∧V1.length=mid-i:=⟨V.take (mid-i),V.drop (mid-i),(aA ..).symm,by rw[aD];omega⟩
  have c1:∀v∈V1,∀u∈U2,lt v u=true:=fun v hv u hu=>by
   obtain⟨q,hq,e⟩:=bX hv;obtain⟨p,hp,e'⟩:=bX hu;have hlU:U.length=U1.length+U2.length:=by rw[eU,ac]
   have n1:0<U2.length:=by omega
   have n2:mid-1-i<V1.length:=by omega
   have gx:U[i-a]? =some (U2[0]'n1):=by rw[eU,ax (by omega),←hU1,cO,ae (by omega)]
   have gy:V[mid-1-i]? =some (V1[mid-1-i]'n2):=by rw[eV,aW (by omega),ae (by omega)]
   have hQ:=hhi i _ _ (ag _) (by omega) gx gy;have q1:=gC w sU (i:=i-a) (j:=i-a+p) (by omega) gx (by rw[eU,ax (by omega),←hU1,co,ae hp,e']);have q2:=gC w sV (i:=q) (j:=mid-1-i) (by omega) (by rw[eV,aW hq,ae hq,e]) gy;cases hvu:lt v u with
   |true=>rfl
   |false=>rw[w.ntr _ _ _ (w.ntr _ _ _ q2 hvu) q1]at hQ;cases hQ
  have c2:∀u∈U1,∀v∈V2,lt v u=false:=fun u hu v hv=>by
   obtain⟨p,hp,e'⟩:=bX hu;obtain⟨q,hq,e⟩:=bX hv;have hlV:V.length=V1.length+V2.length:=by rw[eV,ac]
   have n1:i-1-a<U1.length:=by omega
   have n2:0<V2.length:=by omega
   have gx:U[i-1-a]? =some (U1[i-1-a]'n1):=by rw[eU,aW (by omega),ae (by omega)]
   have gy:V[mid-1-(i-1)]? =some (V2[0]'n2):=by rw[eV,ax (by omega),show mid-1-(i-1)-V1.length=0 by omega,ae (by omega)]
   have hQ:=hlo (i-1) _ _ (by omega) (by omega) gx gy;have q1:=gC w sU (i:=p) (j:=i-1-a) (by omega) (by rw[eU,aW hp,ae hp,e']) gx;have q2:=gC w sV (i:=mid-i) (j:=mid-i+q) (by omega) (by rw[eV,ax (by omega),hV1,cO,ae (by omega)]) (by rw[eV,ax (by omega),hV1,co,ae hq,e])
   have gy2:V[mid-i]? =some (V2[0]'n2):=by rw[eV,ax (by omega),hV1,cO,ae (by omega)]
   exact w.ntr _ _ _ (w.ntr _ _ _ q2 hQ) q1
  subst eU eV;simp only[ac]at hlen hU hV hl hm hb hU2 hV2;have sA1:=sU.left;have sA2:=sU.right;have sB1:=sV.left;have sB2:=sV.right;refine Join.intro (fun _ h3=>OwnS dD 2 al M h3 s (A++(U1++(V1++(U2++(V2++B)))))∧Upd M h' h3) (fun Rj hRj=>?_) ?_
  ·have f1:A++((U1++U2)++((V1++V2)++B))=(A++U1)++(U2++(V1++(V2++B))):=by simp
   have f2:(A++U1)++(V1++(U2++(V2++B)))=A++(U1++(V1++(U2++(V2++B)))):=by simp
   refine Join.intro (fun t h3=>h3=h2∧(t=true↔0<U2.length∧0<V1.length)) (fun Rk hRk=>?_) ?_
   ·refine av (fun h=>hRk _ _ ⟨rfl,?_⟩) fun h=>hRk _ _ ⟨rfl,⟨fun h=>(by cases h),fun h=>(by omega)⟩⟩
    rw[decide_eq_true_iff];constructor
    ·intro h;constructor<;>omega
    ·rintro⟨h1,h2⟩;omega
   ·rintro t h3 ⟨rfl,ht⟩
    cases t with
    |true=>
     obtain⟨p1,p2⟩:=ht.1 rfl;rw[f1]at ho2;refine aB.2 (Hd ho2 hn p1 p2 (by rw[ac];omega) (by rw[ac];omega) (by rw[ac];omega) fun h4 o4 k4=>hRj _ _ ⟨?_,hu2.trans k4 fun b hb=>.inl hb⟩)
     rw[f2]at o4;exact o4
    |false=>
     have hz:U2= []∨V1= []:=by
      rcases ce U2.length with h|h
      ·exact .inl (aq.1 h)
      ·rcases ce V1.length with h3|h3
       ·exact .inr (aq.1 h3)
       ·have:=ht.2 ⟨h,h3⟩;cases this
     refine aj.2 (hRj _ _ ⟨?_,hu2⟩);rw[f1]at ho2;rw[←f2];rcases hz with rfl|rfl
     ·exact ho2
     ·exact ho2
  rintro _ h3 ⟨o3,k3⟩;refine Join.intro (fun _ h4=>∃R1,OwnS dD 2 al M h4 s (A++(R1++(U2++(V2++B))))∧St lt (U1++V1) R1∧Upd M h' h4) (fun Rj hRj=>?_) ?_
  ·refine Join.intro (fun t h4=>h4=h3∧(t=true↔0<U1.length∧0<V1.length)) (fun Rk hRk=>?_) ?_
   ·refine av (fun h=>hRk _ _ ⟨rfl,?_⟩) fun h=>hRk _ _ ⟨rfl,⟨fun h=>(by cases h),fun h=>(by omega)⟩⟩
    rw[decide_eq_true_iff];constructor
    ·intro h;constructor<;>omega
    ·rintro⟨h1,h2⟩;omega
   ·rintro t h4 ⟨rfl,ht⟩
    cases t with
    |true=>
     obtain⟨p1,p2⟩:=ht.1 rfl;refine aB.2 (ih (by omega) o3 (hc.step k3 hi) p1 p2 sA1 sB1 ha (by omega) (by omega) fun h5 R1 o5 s5 k5=>hRj _ _ ⟨R1,o5,s5,k3.trans k5 fun b hb=>.inl hb⟩)
    |false=>
     refine aj.2 (hRj _ _ ⟨U1++V1,by simpa using o3,⟨Eqf.rfl _,?_⟩,k3⟩)
     rcases ce U1.length with h|h
     ·rw[aq.1 h];exact sB1
     ·rcases ce V1.length with h5|h5
      ·rw[aq.1 h5,aE];exact sA1
      ·have:=ht.2 ⟨h,h5⟩;cases this
  rintro _ h4 ⟨R1,o4,s1,k4⟩;have hR1:=s1.eqf.len;rw[ac]at hR1;have fin:∀{h5:ad} {R2:List (Pr)},OwnS dD 2 al M h5 s (A++(R1++(R2++B)))→St lt (U2++V2) R2→Upd M h' h5→K () h5:=fun{h5 R2} o5 s2 k5=>by
   refine hk h5 (R1++R2) ?_ (C1 w sU sV c1 c2 s1 s2) k5;rw[ao];exact o5
  refine Join.intro (fun t h5=>h5=h4∧(t=true↔0<U2.length∧0<V2.length)) (fun Rk hRk=>?_) ?_
  ·refine av (fun h=>hRk _ _ ⟨rfl,?_⟩) fun h=>hRk _ _ ⟨rfl,⟨fun h=>(by cases h),fun h=>(by omega)⟩⟩
   rw[decide_eq_true_iff];constructor
   ·intro h;constructor<;>omega
   ·rintro⟨h1,h2⟩;omega
  ·rintro t h5 ⟨rfl,ht⟩
   have f1:A++(R1++(U2++(V2++B)))=(A++R1)++(U2++(V2++B)):=by simp
   cases t with
   |true=>
    obtain⟨p1,p2⟩:=ht.1 rfl;rw[f1]at o4;refine aB.2 (ih (by omega) o4 (hc.step k4 hi) p1 p2 sA2 sB2 (by rw[ac];omega) (by rw[ac];omega) (by rw[ac];omega) fun h6 R2 o6 s6 k6=>fin (R2:=R2) ?_ s6 (k4.trans k6 fun b hb=>.inl hb))
    rw[ao]at o6;exact o6
   |false=>
    refine aj.2 (fin (R2:=U2++V2) (by simpa using o4) ⟨Eqf.rfl _,?_⟩ k4);rcases ce U2.length with h|h
    ·rw[aq.1 h];exact sB2
    ·rcases ce V2.length with h6|h6
     ·rw[aq.1 h6,aE];exact sA2
     ·have:=ht.2 ⟨h,h6⟩;cases this
theorem G0{lt:Pr→Pr→Bool}(w:WO lt){M:Nat→Prop}{Iv:ad→Prop}{cmp:Value}(hc:Cmp lt dD M Iv cmp){h:ad}{s:SliceV}{xs:List (Pr)}(ho:OwnS dD 2 al M h s xs)(hi:Iv h)(hn:xs.length≤100000000){K:Unit→ad→Prop}
  (hk:∀h' R,OwnS dD 2 al M h' s R→St lt xs R→Upd M h h'→K () h'):HC PG cL [.slice s.a s.len s.cap,cmp] [] K h:=by
 refine iP s cmp ?_;unfold eW;refine m3 s (s.len:Int) cmp ?_;unfold iy;have hlen:=ho.len;have hns:s.len≤1000000000:=by omega
 refine LoopP.ghost (fun(g:List (Pr)×List (Pr)×List (Pr)) (t:Int×Int) h'=>t.1=(g.2.1.length:Int)∧t.2=((g.2.1.length+20:Nat):Int)∧xs=g.1++g.2.2∧Eqf lt g.1 g.2.1∧Full lt 20 g.2.1∧OwnS dD 2 al M h' s (g.2.1++g.2.2)∧Upd M h h') (fun g=>g.2.2.length) ([],[],xs)
  ⟨rfl,rfl,rfl,Eqf.rfl _,Full.nil,ho,Upd.refl _ _⟩ ?_
 rintro I ⟨X,D,T⟩ ⟨ta,tb⟩ h1 ⟨e1,e2,e3,hq,hf,o1,k1⟩ hI;simp only at e1 e2 e3 hq hf o1;subst e1 e2 e3;have hXD:=hq.len;simp only[ac]at hlen hn;refine av (fun hle=>?_) fun hgt=>?_
 ·obtain⟨S,T',rfl,hS⟩:∃S T',T=S++T'∧S.length=20:=⟨T.take 20,T.drop 20,(aA ..).symm,by rw[aD];omega⟩
  refine yY w hc o1 (hc.step k1 hi) hns rfl (b:=D.length+20) (by omega) fun h2 R o2 s2 k2=>?_
  have hR:=s2.eqf.len;simp only[ac]at hlen hn;have ew:IntKind.wrap .i64 (((D.length+20:Nat):Int)+20)=(((D++R).length+20:Nat):Int):=by rw[ac,fL (by omega)];omega
  rw[ew];refine hI (X++S,D++R,T') _ _ ⟨by simp only[ac];omega,rfl,by simp,hq.app s2.eqf,hf.app (by omega) s2.srt,by rw[ao];exact o2,k1.trans k2 fun b hb=>.inl hb⟩ (by simp only[ac];omega)
 have f1:D++T=D++(T++ []):=by simp
 rw[f1]at o1;refine yY w hc o1 (hc.step k1 hi) hns rfl (b:=s.len) (by omega) fun h2 R o2 s2 k2=>?_
 have hR:=s2.eqf.len;rw[aE]at o2;have hq0:Eqf lt (X++T) (D++R):=hq.app s2.eqf;have hr0:Runs lt 20 (D++R):=hf R (.last R (by omega) s2.srt);have k2:Upd M h h2:=k1.trans k2 fun b hb=>.inl hb
 generalize D++R=ys at o2 hq0 hr0;generalize X++T=zs at hq0 hk;have hly:s.len=ys.length:=o2.len;clear hI hq hf o1 f1 hgt hR;refine LoopP.ghost (fun(g:Nat×List (Pr)) (t:Int) h'=>t=(g.1:Int)∧0<g.1∧g.1≤200000000∧Runs lt g.1 g.2∧Eqf lt zs g.2∧OwnS dD 2 al M h' s g.2∧Upd M h h') (fun g=>s.len-g.1) (20,ys)
  ⟨rfl,by simp,by simp,hr0,hq0,o2,k2⟩ ?_
 rintro I2 ⟨bs,ys⟩ t h3 ⟨e1,hb0,hb1,hr,hqz,o3,k3⟩ hI2;simp only at e1 hb0 hb1 hr hqz o3;subst e1;have hly:s.len=ys.length:=o3.len;refine av (fun hlt=>?_) fun hge=>?_
 ·have hlt:bs<s.len:=by omega
  have e0:IntKind.wrap .i64 (2*(bs:Int))=((2*bs:Nat):Int):=by rw[fL (by omega)];omega
  rw[e0];refine LoopP.ghost (fun(g:List (Pr)×List (Pr)×List (Pr)) (t:Int×Int) h'=>t.1=(g.2.1.length:Int)∧t.2=((g.2.1.length+2*bs:Nat):Int)∧ys=g.1++g.2.2∧Eqf lt g.1 g.2.1∧Full lt (2*bs) g.2.1∧Runs lt bs g.2.2∧OwnS dD 2 al M h' s (g.2.1++g.2.2)∧Upd M h h') (fun g=>g.2.2.length) ([],[],ys)
   ⟨rfl,by simp,rfl,Eqf.rfl _,Full.nil,hr,o3,k3⟩ ?_
  rintro I3 ⟨Y,D,T⟩ ⟨ta,tb⟩ h4 ⟨e1,e2,e3,hq,hf,hrT,o4,k4⟩ hI3;simp only at e1 e2 e3 hq hf hrT o4;subst e1 e2 e3;have hYD:=hq.len;simp only[ac]at hly;have ea:IntKind.wrap .i64 ((D.length:Int)+(bs:Int))=((D.length+bs:Nat):Int):=by rw[fL (by omega)];omega
  simp only;rw[ea];refine av (fun hle=>?_) fun hgt=>?_
  ·obtain⟨B1,T1,rfl,hB1,sB1,hr1⟩:=hrT.split (by omega)
   simp only[ac]at hly;obtain⟨B2,T2,rfl,hB2,sB2,hr2⟩:=hr1.split (by omega);simp only[ac]at hly;refine wr w hc hns (B1.length+B2.length) (ag _) o4 (hc.step k4 hi) (by omega) (by omega) sB1 sB2 rfl (by omega) (by omega) fun h5 R o5 s5 k5=>?_
   have hR:=s5.eqf.len;rw[ac]at hR;have ew:IntKind.wrap .i64 (((D.length+2*bs:Nat):Int)+((2*bs:Nat):Int))=(((D++R).length+2*bs:Nat):Int):=by rw[ac,fL (by omega)];omega
   rw[ew];refine hI3 (Y++(B1++B2),D++R,T2) _ _ ⟨by simp only[ac];omega,rfl,by simp,hq.app s5.eqf,hf.app (by omega) s5.srt,hr2,by rw[ao];exact o5,k4.trans k5 fun b hb=>.inl hb⟩ (by simp only[ac];omega)
  ·refine Join.intro (fun _ h5=>∃R,Eqf lt T R∧Runs lt (2*bs) R∧OwnS dD 2 al M h5 s (D++R)∧Upd M h h5) (fun Rj hRj=>?_) ?_
   ·refine av (fun hmn=>?_) fun hmn=>?_
    ·obtain⟨B1,T1,rfl,hB1,sB1,hr1⟩:=hrT.split (by omega)
     simp only[ac]at hly;have f1:D++(B1++T1)=D++(B1++(T1++ [])):=by simp
     rw[f1]at o4;refine wr w hc hns (B1.length+T1.length) (ag _) o4 (hc.step k4 hi) (by omega) (by omega) sB1 (hr1.short (by omega)) rfl (by omega) (by omega) fun h5 R o5 s5 k5=>?_
     have hR:=s5.eqf.len;rw[ac]at hR;rw[aE]at o5;exact hRj _ _ ⟨R,s5.eqf,.last R (by omega) s5.srt,o5,k4.trans k5 fun b hb=>.inl hb⟩
    ·exact hRj _ _ ⟨T,Eqf.rfl _,.last T (by omega) (hrT.short (by omega)),o4,k4⟩
   ·rintro _ h5 ⟨R,q5,r5,o5,k5⟩
    have ew:IntKind.wrap .i64 ((bs:Int)*2)=((2*bs:Nat):Int):=by rw[fL (by omega)];omega
    rw[ew];exact hI2 (2*bs,D++R) _ _ ⟨rfl,by simp only;omega,by simp only;omega,hf R r5,hqz.tr (hq.app q5),o5,k5⟩ (by simp only;omega)
 ·exact hk h3 ys o3 ⟨hqz,hr.short (by omega)⟩ k3
end Go.Proofs
namespace Go.Proofs
open Go Go.Lift
def StP(N:Nat):Prop:=∀{lt:Pr→Pr→Bool},WO lt→∀{M:Nat→Prop} {Iv:ad→Prop} {cmp:Value},Cmp lt dD M Iv cmp→∀{h:ad} {s:SliceV} {xs:List Pr},OwnS dD 2 al M h s xs→Iv h→xs.length≤N→∀{K:Unit→ad→Prop},
 (∀h' R,OwnS dD 2 al M h' s R→St lt xs R→Upd M h h'→K () h')→HC PG cL [.slice s.a s.len s.cap,cmp] [] K h
def StH(N:Nat):Prop:=∀{z0:Hs} {lt:Pr→Pr→Bool},WO lt→∀{M:Nat→Prop} {Iv:ad→Prop} {cmp:Value},Cmp lt (ny z0) M Iv cmp→∀{h:ad} {s:SliceV} {xs:List Pr},OwnS (ny z0) 3 aG M h s xs→Iv h→xs.length≤N→∀{K:Unit→ad→Prop},
 (∀h' R,OwnS (ny z0) 3 aG M h' s R→St lt xs R→Upd M h h'→K () h')→HC PG cy [.slice s.a s.len s.cap,cmp] [] K h
theorem stP:StP 100000000:=fun w _ _ _ hc _ _ _ ho hi hn _ hk=>G0 w hc ho hi hn hk
theorem stH:StH 100000000:=fun w _ _ _ hc _ _ _ ho hi hn _ hk=>G3 w hc ho hi hn hk
end Go.Proofs
namespace Go.Proofs
open Go Go.Lift
def NZ(a b:Pr):Bool:=decide (kl a.1 b.1)
theorem O9:WO NZ:=by
 refine⟨fun a=>decide_eq_false (dw _),fun a b h=>decide_eq_false fun k=>dw _ (jG (of_decide_eq_true h) k),fun a b c h k=>decide_eq_false fun hk=>?_⟩
 have h:=of_decide_eq_false h;have k:=of_decide_eq_false k;by_cases e:b.1=c.1
 ·rw[←e]at hk;exact h hk
 ·have k2:=rH k e
  exact h (jG hk k2)
theorem Og(x a:Pr):EB NZ x a=decide (a.1=x.1):=by
 unfold EB NZ;by_cases e:a.1=x.1
 ·rw[decide_eq_true e,e,decide_eq_false (dw _)];rfl
 ·rw[decide_eq_false e]
  by_cases h:kl a.1 x.1
  ·rw[decide_eq_true h];rfl
  ·rw[decide_eq_false h,decide_eq_true (rH h e)];rfl
def kC(l:List Pr)(k:ByteArray):Option Pr:=(l.filter fun q=>decide (q.1=k)).getLast?
theorem pC(q:Pr)(l:List Pr)(k:ByteArray):kC (q::l) k=if q.1=k then some ((kC l k).getD q)else kC l k:=by
 unfold kC;rw[List.filter_cons];by_cases h:q.1=k
 ·rw[if_pos (decide_eq_true h),if_pos h,List.getLast?_cons]
 ·rw[if_neg (by simpa using h),if_neg h]
theorem Kr{l:List Pr}{k:ByteArray}{p:Pr}(h:kC l k=some p):p∈l:=by
 unfold kC at h;exact(List.mem_filter.1 (List.mem_of_getLast? h)).1
theorem HK{l:List Pr}{k:ByteArray}(h:∀q∈l,q.1≠k):kC l k=none:=by
 unfold kC;rw[List.filter_eq_nil_iff.2 fun q hq=>by simpa using h q hq];rfl
theorem Mz{l l':List Pr}(h:Eqf NZ l l')(k:ByteArray):kC l' k=kC l k:=by
 unfold kC;have:=h.flt (k,k);have e:∀m:List Pr,m.filter (EB NZ (k,k))=m.filter fun q=>decide (q.1=k):=fun m=>List.filter_congr fun q _=>Og (k,k) q
 rw[e,e]at this;rw[this]
def lG(l:List Pr):List Pr:=l.foldl (fun acc p=>lI p acc) []
theorem yc:∀(l:List Pr) {acc:List Pr},d9 acc→d9 (l.foldl (fun acc p=>lI p acc) acc)∧∀p,p∈l.foldl (fun acc p=>lI p acc) acc↔kC l p.1=some p∨(kC l p.1=none∧p∈acc)
 | [],acc,hr=>⟨hr,fun p=>by simp[kC]⟩
 |q::l,acc,hr=>by
  obtain⟨h1,h2⟩:=yc l (C6 q hr);refine⟨h1,fun p=>?_⟩
  rw[List.foldl_cons,h2 p,pC,yX hr];by_cases e:q.1=p.1
  ·rw[if_pos e]
   cases hl:kC l p.1 with
   |none=>
    simp only[Option.getD_none,Option.some.injEq,reduceCtorEq,false_or,false_and,or_false];constructor
    ·rintro⟨_,rfl|⟨_,h⟩⟩
     ·rfl
     ·exact absurd e.symm h
    ·rintro rfl;exact⟨trivial,.inl rfl⟩
   |some r=>simp
  ·rw[if_neg e]
   constructor
   ·rintro(h|⟨h,rfl|⟨h3,_⟩⟩)
    ·exact .inl h
    ·exact absurd rfl e
    ·exact .inr ⟨h,h3⟩
   ·rintro(h|⟨h,h3⟩)
    ·exact .inl h
    ·exact .inr ⟨h,.inr ⟨h3,fun e2=>e e2.symm⟩⟩
theorem qZ(l:List Pr):d9 (lG l):=(yc l gk).1
theorem Jk{l:List Pr}{p:Pr}:p∈lG l↔kC l p.1=some p:=by
 have:=(yc l (acc:= []) gk).2 p;unfold lG;rw[this];simp
def jS:List Pr→List Pr
 | []=> []
 | [p]=> [p]
 |p::q::l=>if q.1=p.1 then jS (q::l)else p::jS (q::l)
theorem oe(p q:Pr)(l:List Pr):jS (p::q::l)=if q.1=p.1 then jS (q::l)else p::jS (q::l):=rfl
theorem vA:∀(l:List Pr),∀p∈jS l,p∈l
 | [],p,h=>h
 | [q],p,h=>h
 |q::r::l,p,h=>by
  rw[oe]at h;split at h
  ·exact aH _ (vA (r::l) p h)
  ·rcases az.1 h with rfl|h
   ·exact au ..
   ·exact aH _ (vA (r::l) p h)
theorem Dn:∀{l:List Pr},Srt NZ l→d9 (jS l)∧∀p,p∈jS l↔kC l p.1=some p
 | [],_=>⟨gk,fun p=>by simp[jS,kC]⟩
 | [q],_=>⟨List.pairwise_singleton ..,fun p=>by
   show p∈[q]↔_
   rw[aJ,pC]
   by_cases e:q.1=p.1
   ·rw[if_pos e];simp[kC,eq_comm]
   ·rw[if_neg e];simp only[kC,List.filter_nil,List.getLast?_nil,reduceCtorEq,iff_false]
    rintro rfl;exact e rfl⟩
 |p::q::l,hs=>by
  have hs':=aS.1 hs;obtain⟨h1,h2⟩:=Dn (l:=q::l) hs'.2;rw[oe];by_cases e:q.1=p.1
  ·rw[if_pos e]
   refine⟨h1,fun r=>?_⟩
   rw[h2 r,pC p];by_cases e2:p.1=r.1
   ·rw[if_pos e2]
    have:kC (q::l) r.1≠none:=by
     rw[pC,if_pos (e.trans e2)];simp
    cases hl:kC (q::l) r.1 with
    |none=>exact absurd hl this
    |some z=>simp
   ·rw[if_neg e2]
  ·rw[if_neg e]
   have hlt:∀r∈q::l,kl p.1 r.1:=fun r hr=>by
    have hpq:kl p.1 q.1:=by
     have:=of_decide_eq_false (hs'.1 q (au ..));exact rH this e
    rcases az.1 hr with rfl|hr
    ·exact hpq
    ·have:=of_decide_eq_false ((aS.1 hs'.2).1 r hr)
     by_cases e2:r.1=q.1
     ·rw[e2];exact hpq
     ·exact jG hpq (rH this e2)
   refine⟨aS.2 ⟨fun r hr=>hlt r (vA _ r hr),h1⟩,fun r=>?_⟩
   rw[az,h2 r,pC p];by_cases e2:p.1=r.1
   ·rw[if_pos e2]
    have hn:kC (q::l) r.1=none:=HK fun z hz ez=>by
     have:=hlt z hz;rw[ez,e2]at this;exact dw _ this
    rw[hn];simp[eq_comm]
   ·rw[if_neg e2]
    constructor
    ·rintro(rfl|h)
     ·exact absurd rfl e2
     ·exact h
    ·exact .inr
theorem HJ{l ys:List Pr}(h:St NZ l ys):jS ys=lG l:=by
 obtain⟨h1,h2⟩:=Dn h.srt;refine x6 h1 (qZ l) fun p=>?_
 rw[h2 p,Jk,Mz h.eqf]
theorem P6(M:Nat→Prop):Cmp NZ dD M (fun _=>True) (.func (.func oH) #[] #[]):=by
 refine⟨fun a b h K _ hk=>HV.mk' (zB a b ?_),fun _ h=>h⟩
 unfold sA bV aF xM B7;refine aQ fun h1 b1 k1=>aQ fun h2 b2 k2=>?_
 have c1:=k2.get0 b1;refine⟨a.1,vc c1 0,a.2,vc c1 1,b.1,vc b2 0,?_⟩;refine FH fun h3 k3=>hk h3 _ ((k1.tr k2).tr k3) ?_
 unfold EA NZ;split
 ·rename_i h;rw[decide_eq_true h];rfl
 ·rename_i h
  rw[decide_eq_false h];split<;>rfl
theorem AS:∀(l:List Pr),(jS l).length≤l.length
 | []=>ag _
 | [_]=>ag _
 |p::q::l=>by
  rw[oe];have:=AS (q::l);split
  ·simp only[ap]at this⊢;omega
  ·simp only[ap]at this⊢;omega
theorem vy{h:ad}{t:TypeId}{p:Pr}{k:ad→Prop}(hk:∀h',h'[h.size]? =some (.cells #[.string p.1,.string p.2] t (0,0))→Upd No h h'→k h'):
 At (hnew h [.string (⟨#[]⟩:ByteArray),.string (⟨#[]⟩:ByteArray)] t) (fun h1=>uv h1 (some (aC h)) 0 [.string p.1,.string p.2]∧At (iM h1 (aC h) 0 [.string p.1,.string p.2]) k):=py (p:=p) hk
theorem Ar{N:Nat}(st:StP N)(hN:N≤100000000){W W':Nat→Prop}{h:ad}{s:SliceV}{l:List Pr}(hs:Sl dD 2 W h s l)(hW':∀y,W' y→y<h.size)(hn:l.length≤N){K:SliceV→ad→Prop}
  (hk:∀s' h',Sl dD 2 W' h' s' (lG l)→s'.len≤s'.cap→Upd No h h'→K s' h'):HC PG nU [.slice s.a s.len s.cap] [.c .slice] K h:=by
 refine CA s ?_;unfold uY bR cn nv jm aL aF im lC;refine uh hs (by omega) fun s1 h1 ho1 hu1=>?_
 refine st O9 (P6 _) ho1 trivial (by omega) fun h2 ys ho2 hst hu2=>?_
 have hyl:=hst.eqf.len;have hu02:Upd No h h2:=hu1.trans hu2 fun x hx=>.inr hx
 have hlen:=ho2.len;have hlast:=HJ hst;have z1:=hu1.size;have hll:=AS ys;refine LoopP.ghost (fun(g:List Pr×List Pr×List Pr) (t:Int×Int) h'=>t.1=(g.1.length:Int)∧t.2=((g.1.length+g.2.1.length:Nat):Int)∧g.1++jS g.2.2=jS ys∧g.1.length+g.2.1.length+g.2.2.length=ys.length∧OwnS dD 2 al (fun b=>h.size≤b) h' s1 (g.1++(g.2.1++g.2.2))∧Upd No h h') (fun g=>g.2.2.length) ([],[],ys)
  ⟨rfl,rfl,rfl,by simp,ho2,hu02⟩ ?_
 rintro I ⟨R,G,T⟩ ⟨tn,ti⟩ h3 ⟨e1,e2,hl3,hc3,ho3,hu3⟩ hI;simp only at e1 e2 hl3 hc3 ho3;subst e1 e2;refine av (fun hlt=>?_) fun hge=>?_
 ·match T with
  | []=>simp only[aI]at hc3;omega
  |p::T=>
   simp only[ap]at hc3;have ew:IntKind.wrap .i64 (((R.length+G.length:Nat):Int)+1)=((R.length+G.length+1:Nat):Int):=by rw[fL (by omega)];omega
   simp only;rw[ew];refine Join.intro (fun n' h'=>∃R' G',n'=(R'.length:Int)∧R'.length+G'.length=R.length+G.length+1∧R'++jS T=jS ys∧OwnS dD 2 al (fun b=>h.size≤b) h' s1 (R'++(G'++T))∧Upd No h h') (fun Rj hRj=>?_) ?_
   ·obtain⟨a,ha,hv⟩:=nP ho3 (i:=R.length+G.length) (x:=p) (by rw[ax (by omega),co,ax (ag _),cO];rfl)
    refine⟨⟨by omega,by omega⟩,a,ha,p.1,hv 0 _ rfl,p.2,hv 1 _ rfl,?_⟩
    refine vy (p:=p) fun h4 b4 k4=>?_
    have ho4:=ho3.upd k4 fun _ _ h=>h
    have hu4:=hu3.tr k4;refine Join.intro (fun t h'=>h'=h4∧(t=true↔∃q T',T=q::T'∧q.1=p.1)) (fun Rk hRk=>?_) ?_
    ·refine av (fun hlt2=>?_) fun hge2=>hRk _ _ ⟨rfl,⟨fun h=>(by cases h),fun⟨q,T',e,_⟩=>(by subst e;simp only[ap]at hc3;omega)⟩⟩
     rcases T with _|⟨q,T⟩
     ·simp only[aI]at hc3;omega
     ·obtain⟨a',ha',hv'⟩:=nP ho4 (i:=R.length+G.length+1) (x:=q) (by rw[ax (by omega),show R.length+G.length+1-R.length=G.length+1 by omega,ax (by omega),co];rfl)
      refine⟨⟨by omega,by omega⟩,a',ha',q.1,hv' 0 _ rfl,p.1,vc b4 0,hRk _ _ ⟨rfl,?_⟩⟩
      rw[w8,decide_eq_true_iff];exact⟨fun e=>⟨q,T,rfl,e⟩,fun⟨q',T',e,e'⟩=>by cases e;exact e'⟩
    ·rintro t h5 ⟨rfl,ht⟩
     ·cases t with
      |true=>
       obtain⟨q,T',rfl,eq⟩:=ht.1 rfl;refine aB.2 (hRj _ _ ⟨R,G++ [p],rfl,by simp;omega,?_,by simpa using ho4,hu4⟩)
       rw[←hl3,oe,if_pos eq]
      |false=>
       have hT:jS (p::T)=p::jS T:=by
        rcases T with _|⟨q,T'⟩
        ·rfl
        ·rw[oe,if_neg fun e=>by have:=ht.2 ⟨q,T',rfl,e⟩;cases this]
       refine aj.2 ⟨p.1,vc b4 0,p.2,vc b4 1,⟨by omega,by omega⟩,a,ha,?_⟩
       have ew2:IntKind.wrap .i64 ((R.length:Int)+1)=((R++ [p]).length:Int):=by rw[ac,aw,fL (by omega)];omega
       rw[ew2];rcases G with _|⟨g,G⟩
       ·rw[cd]at ho4
        refine jR ho4 p ha (by simp) fun h6 o6 k6=>hRj _ _ ⟨R++ [p],[],rfl,by simp,?_,by simpa using o6,hu4.trans k6 fun b hb=>.inr hb⟩
        rw[←hl3,hT];simp
       ·have f1:R++((g::G)++p::T)=R++g::(G++p::T):=by simp
        rw[f1]at ho4;refine jR ho4 p ha (by simp) fun h6 o6 k6=>hRj _ _ ⟨R++ [p],G++ [p],rfl,by simp;omega,?_,by simpa using o6,hu4.trans k6 fun b hb=>.inr hb⟩
        rw[←hl3,hT];simp
   ·rintro n' h6 ⟨R',G',rfl,hc6,hl6,ho6,hu6⟩
    exact hI (R',G',T) _ _ ⟨rfl,by simp only;rw[hc6],hl6,by simp only;omega,ho6,hu6⟩ (by simp)
 ·have hT:T= []:=aq.1 (by omega)
  subst hT;simp only[aI]at hc3;simp only[jS,aE]at hl3 ho3;have hcap:=ho3.cap;refine⟨⟨by simp only;omega,by simp only;omega⟩,?_⟩
  have hsl:=ho3.sl (W:=W') fun x hx _ hw=>by have:=hW' x hw;omega
  have hA:=Sl.sub hsl (l:=0) (hi:=R.length) (m:=s1.cap) (c:=s1.cap-0) (Nat.zero_le _) (by simp) (by omega);have e2:((R++G).drop 0).take (R.length-0)=lG l:=by rw[List.drop_zero,Nat.sub_zero,List.take_left];exact hl3.trans hlast
  rw[e2]at hA;exact hk _ _ hA (by simp only;omega) hu3
end Go.Proofs
namespace Go.Proofs
open Go Go.Lift
theorem B6{h:ad}{b:Nat}{c:Array Value}{t:TypeId}(hb:h[b]? =some (.cells c t (0,0))):aO h ⟨b,0,none⟩=c[0]?:=bo hb
theorem KH{z:Hs}{W:Nat→Prop}{h:ad}{s:SliceV}{xs:List Pr}(h1:Sl (ny z) 3 W h s xs)(hn:xs.length*40≤140737488355328){K:SliceV→ad→Prop}
  (hk:∀s' h',OwnS (ny z) 3 aG (fun b=>h.size≤b) h' s' xs→Upd No h h'→K s' h'):HC PG dP [.slice s.a s.len s.cap] [.c .slice] K h:=by
 refine jy s ?_;unfold fw GR;refine CondP.intro (fun he=>?_) (fun hne=>?_)
 ·have he:s.a=none:=by simpa using he
  have hx:xs= []:=by
   by_cases hx:xs= []
   ·exact hx
   ·obtain⟨a,ha,_⟩:=h1.row hx
    rw[he]at ha;cases ha
  subst hx;exact hk _ _ (OwnS.nil (En z)) (Upd.refl _ _)
 ·have h2:=h1.upd (Upd.hnew No h [] aG) (fun _ h=>h.elim)
  refine⟨_,h2.srow,?_⟩;refine AppP.own (f:=ny z) (M:=fun b=>h.size≤b) (xs:= []) (ys:=xs) ⟨rfl,En z,ag _,.inl rfl⟩ h1.len rfl (Ji z xs) rfl (by omega) (by simpa using hn) (by rw[f9];omega) fun s' h' ho hu=>?_
  exact hk _ _ ho ((Upd.hnew No h [] aG).trans hu fun b hb=>.inr hb)
theorem Ku{z:Hs}{W:Nat→Prop}{h:ad}{s:SliceV}{xs:List Pr}(hs:Sl (ny z) 3 W h s xs)(hn:xs.length≤1000000000){g:Pr→Bool}{V:Value}(hg:∀p∈xs,∀{h':ad} {K:Bool→ad→Prop},Upd No h h'→(∀h'',Upd No h' h''→K (g p) h'')→HV PG V [.agg (ny z p).toArray] [.c .bool] K h'){K:Int→ad→Prop}
  (hk:∀h' A B e,xs=A++B→(∀a∈A,g a=false)→(B= []→e= -1)→(∀b B',B=b::B'→e=(A.length:Int)∧g b=true)→Upd No h h'→K e h'):HC PG cI [.slice s.a s.len s.cap,V] [.c (.int .i64)] K h:=by
 refine iH s V ?_;unfold eP cn aL eB qE;have hlen:=hs.len;refine LoopP.ghost (fun(g':List Pr×List Pr) (t:Int) h'=>t=(g'.1.length:Int)∧xs=g'.1++g'.2∧(∀a∈g'.1,g a=false)∧Upd No h h') (fun g=>g.2.length) ([],xs) ⟨rfl,rfl,fun a ha=>(by cases ha),Upd.refl _ _⟩ ?_
 rintro I ⟨A,B⟩ t h' ⟨e1,e2,hA,hu⟩ hI;simp only at e1 e2 hA;subst e1 e2;simp only[ac]at hlen hn;refine av (fun hlt=>?_) fun hge=>?_
 ·rcases B with _|⟨p,B⟩
  ·simp only[aI]at hlen;omega
  ·obtain⟨a,ha,_,hv⟩:=(hs.upd hu fun _ h=>h.elim).at (i:=A.length) (x:=p) (by rw[ax (ag _),cO];rfl)
   refine⟨⟨by omega,by omega⟩,a,ha,p.1,hv 0 _ rfl,p.2,hv 1 _ rfl,ga z p.1,hv 2 _ rfl,?_⟩
   refine hg p (by simp) hu fun h2 k2=>?_
   cases hgp:g p with
   |true=>exact aB.2 (hk h2 A (p::B) _ rfl hA (fun h=>by cases h) (fun b B' e=>by cases e;exact⟨rfl,hgp⟩) (hu.tr k2))
   |false=>
    refine aj.2 ?_;have ew:IntKind.wrap .i64 ((A.length:Int)+1)=((A++ [p]).length:Int):=by simp only[ap]at hn;rw[ac,aw,fL (by omega)];omega
    rw[ew];refine hI (A++ [p],B) _ _ ⟨rfl,by simp,fun a ha=>?_,hu.tr k2⟩ (by simp)
    rcases bP.1 ha with ha|ha
    ·exact hA a ha
    ·rw[aJ.1 ha];exact hgp
 ·have hB:B= []:=aq.1 (by omega)
  subst hB;exact hk h' A [] _ rfl hA (fun _=>rfl) (fun b B' e=>by cases e) hu
theorem Kt{W:Nat→Prop}{h:ad}{s:SliceV}{xs:List Pr}(hs:Sl dD 2 W h s xs)(hn:xs.length≤1000000000){g:Pr→Bool}{V:Value}(hg:∀p∈xs,∀{h':ad} {K:Bool→ad→Prop},Upd No h h'→(∀h'',Upd No h' h''→K (g p) h'')→HV PG V [.agg (dD p).toArray] [.c .bool] K h'){K:Int→ad→Prop}
  (hk:∀h' A B e,xs=A++B→(∀a∈A,g a=false)→(B= []→e= -1)→(∀b B',B=b::B'→e=(A.length:Int)∧g b=true)→Upd No h h'→K e h'):HC PG dY [.slice s.a s.len s.cap,V] [.c (.int .i64)] K h:=by
 refine jT s V ?_;unfold fG cn aL xM;have hlen:=hs.len;refine LoopP.ghost (fun(g':List Pr×List Pr) (t:Int) h'=>t=(g'.1.length:Int)∧xs=g'.1++g'.2∧(∀a∈g'.1,g a=false)∧Upd No h h') (fun g=>g.2.length) ([],xs) ⟨rfl,rfl,fun a ha=>(by cases ha),Upd.refl _ _⟩ ?_
 rintro I ⟨A,B⟩ t h' ⟨e1,e2,hA,hu⟩ hI;simp only at e1 e2 hA;subst e1 e2;simp only[ac]at hlen hn;refine av (fun hlt=>?_) fun hge=>?_
 ·rcases B with _|⟨p,B⟩
  ·simp only[aI]at hlen;omega
  ·obtain⟨a,ha,_,hv⟩:=(hs.upd hu fun _ h=>h.elim).at (i:=A.length) (x:=p) (by rw[ax (ag _),cO];rfl)
   refine⟨⟨by omega,by omega⟩,a,ha,p.1,hv 0 _ rfl,p.2,hv 1 _ rfl,?_⟩
   refine hg p (by simp) hu fun h2 k2=>?_
   cases hgp:g p with
   |true=>exact aB.2 (hk h2 A (p::B) _ rfl hA (fun h=>by cases h) (fun b B' e=>by cases e;exact⟨rfl,hgp⟩) (hu.tr k2))
   |false=>
    refine aj.2 ?_;have ew:IntKind.wrap .i64 ((A.length:Int)+1)=((A++ [p]).length:Int):=by simp only[ap]at hn;rw[ac,aw,fL (by omega)];omega
    rw[ew];refine hI (A++ [p],B) _ _ ⟨rfl,by simp,fun a ha=>?_,hu.tr k2⟩ (by simp)
    rcases bP.1 ha with ha|ha
    ·exact hA a ha
    ·rw[aJ.1 ha];exact hgp
 ·have hB:B= []:=aq.1 (by omega)
  subst hB;exact hk h' A [] _ rfl hA (fun _=>rfl) (fun b B' e=>by cases e) hu
abbrev atV(bl:Nat):Value:=.func (.func pI) #[] #[.pointer (some ⟨bl,0,none⟩)]
theorem Bm{z:Hs}{lev:Nat}(hl:lev<13){h:ad}{bl:Nat}{t:TypeId}(hb:h[bl]? =some (.cells #[.int .i64 (lev:Int)] t (0,0))) (p:Pr) {K:Int→ad→Prop} (hk:∀h',Upd No h h'→K (ck z lev p.1:Int) h'):
  HV PG (atV bl) [.agg (ny z p).toArray] [.c (.int .i64)] K h:=by
 refine HV.mk' (Bz (p.1,p.2,ga z p.1) ⟨bl,0,none⟩ ?_);unfold tR ar bV oC Hy;refine aQ fun h1 b1 k1=>?_
 exact⟨_,vc b1 2,_,B6 (k1.get0 hb),P7 hl (hk h1 k1)⟩
theorem FV{a:Int}{h:ad}{K:Bool→ad→Prop}(hk:K false h):HC PG l6 [.int .i64 a] [.c .bool] K h:=by
 refine zG a ?_;unfold sG;rw[bne_self_eq_false];exact hk
theorem KD{a b:Int}{h:ad}{K:Int→ad→Prop}(hk:∀e,decide (e<0)=decide (a<b)→K e h):HC PG mX [.int .i64 a,.int .i64 b] [.c (.int .i64)] K h:=by
 refine xr a b ?_;unfold qy;refine FV (FV (aj.2 (aj.2 ?_)));refine av (fun h1=>hk _ ?_) fun h1=>av (fun h2=>hk _ ?_) fun h2=>hk _ ?_
 ·rw[decide_eq_true h1];rfl
 ·rw[decide_eq_false h1];rfl
 ·rw[decide_eq_false h1];rfl
def Pb(z:Hs)(lev:Nat)(a b:Pr):Bool:=decide (ck z lev a.1<ck z lev b.1)
theorem Pa(z:Hs)(lev:Nat):WO (Pb z lev):=by
 refine⟨fun a=>decide_eq_false (by omega),fun a b h=>decide_eq_false ?_,fun a b c h k=>decide_eq_false ?_⟩
 ·have:=of_decide_eq_true h;omega
 ·have:=of_decide_eq_false h;have:=of_decide_eq_false k;omega
theorem Oh(z:Hs)(lev:Nat)(x a:Pr):EB (Pb z lev) x a=decide (ck z lev a.1=ck z lev x.1):=by
 unfold EB Pb;by_cases e:ck z lev a.1=ck z lev x.1
 ·rw[decide_eq_true e,e];simp
 ·rw[decide_eq_false e]
  rcases Nat.lt_or_gt_of_ne e with h|h
  ·rw[decide_eq_true h];rfl
  ·rw[decide_eq_true (p:=ck z lev x.1<ck z lev a.1) h];simp
def Two(bl ba:Nat)(lev:Nat)(h:ad):Prop:=h[bl]? =some (.cells #[.int .i64 (lev:Int)] ko (0,0))∧h[ba]? =some (.cells #[atV bl] mA (0,0))
theorem Two.upd{bl ba lev:Nat}{h h':ad}(t:Two bl ba lev h)(k:Upd No h h'):Two bl ba lev h':=⟨k.get0 t.1,k.get0 t.2⟩
theorem QA{z:Hs}{lev:Nat}(hl:lev<13){bl ba:Nat}{M:Nat→Prop}(h1:¬M bl)(h2:¬M ba):Cmp (Pb z lev) (ny z) M (Two bl ba lev) (.func (.func pH) #[] #[.pointer (some ⟨ba,0,none⟩)]):=by
 refine⟨fun a b h K t hk=>HV.mk' (Bx (a.1,a.2,ga z a.1) (b.1,b.2,ga z b.1) ⟨ba,0,none⟩ ?_),fun k t=>⟨k.get t.1 h1,k.get t.2 h2⟩⟩
 unfold tQ ar bV aF qE Hy OL;refine aQ fun h1 b1 k1=>aQ fun h2 b2 k2=>?_
 have k02:=k1.tr k2;have t2:=t.upd k02;have c1:=k2.get0 b1;refine⟨_,B6 t2.2,_,vc c1 0,_,vc c1 1,_,vc c1 2,_,B6 t2.2,_,vc b2 0,_,vc b2 1,_,vc b2 2,?_⟩;refine Bm (z:=z) hl t2.1 a fun h3 k3=>?_
 have t3:=t2.upd k3;have b3:=k3.get0 b2;refine⟨⟨vc b3 0,vc b3 1,vc b3 2⟩,B6 t3.2,?_⟩;refine Bm (z:=z) hl t3.1 b fun h4 k4=>?_
 refine KD fun e he=>hk h4 e ((k02.tr k3).tr k4) ?_
 rw[he];unfold Pb;exact decide_eq_decide.2 (by omega)
end Go.Proofs
