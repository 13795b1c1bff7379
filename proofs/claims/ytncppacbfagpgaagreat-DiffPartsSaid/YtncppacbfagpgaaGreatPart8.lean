/- A part of the proof that the named laws of this program answer true, whatever the input. -/
import Derived.Test.YtncppacbfagpgaaGreatPart4
import Derived.Test.YtncppacbfagpgaaGreatPart5
open List renaming length_append→ac,length_nil→aB,length_cons→aj,length_eq_zero_iff→av,append_nil→aG,nil_append→cd,take_append_drop→aE,length_take→aI,length_drop→aN,append_assoc→ao,mem_append→bd,mem_singleton→aC,mem_cons→az,length_singleton→aJ,getElem?_eq_some_iff→bj,getElem?_eq_getElem→ai,getElem_of_mem→aU,getElem?_append_left→bC,getElem?_append_right→aH,pairwise_append→bH,mem_cons_self→ar,mem_append_left→cg,mem_append_right→co
open Nat renaming eq_zero_or_pos→cx,le_refl→aq,add_sub_cancel_left→cl,sub_self→dk,lt_of_lt_of_le→ay,one_pos→nb
namespace Go.Proofs
open Go Go.Lift
variable {z0:Hs}
theorem uH{M:Nat→Prop}{h:af}{s:SliceV}{A U C V B:List (Pr)}(ho:OwnS (rK z0) 3 aQ M h s (A++(U++(C++(V++B)))))(hn:s.len≤1000000000)(huv:U.length=V.length){a b:Nat}(ha:a=A.length)(hb:b=A.length+U.length+C.length){n:Nat}(hun:n=U.length){cmp:Value}{K:Unit→af→Prop}
  (hk:∀h',OwnS (rK z0) 3 aQ M h' s (A++(V++(C++(U++B))))→Upd M h h'→K () h'):HC PG cN [.slice s.a s.len s.cap,.int .i64 a,.int .i64 b,.int .i64 n,cmp] [] K h:=by
 subst ha hb hun;refine m8 s A.length (A.length+U.length+C.length:Nat) U.length cmp ?_;unfold iz ae bS;have hlen:=ho.len;simp only[ac]at hlen;refine LoopP.ghost (fun(g:(List (Pr)×List (Pr))×List (Pr)×List (Pr)) (t:Int) h'=>t=(g.1.1.length:Int)∧U=g.1.1++g.1.2∧V=g.2.1++g.2.2∧g.1.1.length=g.2.1.length∧OwnS (rK z0) 3 aQ M h' s (A++(g.2.1++(g.1.2++(C++(g.1.1++(g.2.2++B))))))∧Upd M h h') (fun g=>g.1.2.length) (([],U),[],V)
  ⟨rfl,rfl,rfl,rfl,ho,Upd.refl _ _⟩ ?_
 rintro I ⟨⟨U1,U2⟩,V1,V2⟩ t h' ⟨e1,e2,e3,hl,ho',hu⟩ hI;simp only at e1 e2 e3 hl ho';subst e1 e2 e3;simp only[ac]at huv hlen;refine ax (fun hlt=>?_) fun hge=>?_
 ·simp only[ac]at hlt
  match U2,V2 with
  | [],_=>simp only[aB]at hlt;omega
  |_::_,[]=>simp only[aB,aj]at huv;omega
  |u::U2,v::V2=>
   simp only[aj]at huv hlen;simp only[ac,aj];have ew1:IntKind.wrap .i64 (((A.length+(U1.length+(U2.length+1))+C.length:Nat):Int)+(U1.length:Int))=((A.length+(U1.length+(U2.length+1))+C.length+U1.length:Nat):Int):=by rw[cS (by omega)];omega
   have ew2:IntKind.wrap .i64 ((A.length:Int)+(U1.length:Int))=((A.length+U1.length:Nat):Int):=by rw[cS (by omega)];omega
   rw[ew1,ew2];have f1:A++(V1++((u::U2)++(C++(U1++((v::V2)++B)))))=(A++V1)++u::(U2++(C++(U1++(v::V2++B)))):=by simp
   have f2:(A++V1)++u::(U2++(C++(U1++(v::V2++B))))=((A++V1)++u::(U2++(C++U1)))++v::(V2++B):=by simp
   have f3:(A++V1)++v::(U2++(C++(U1++(v::V2++B))))=((A++V1)++v::(U2++(C++U1)))++v::(V2++B):=by simp
   have f4:((A++V1)++v::(U2++(C++U1)))++u::(V2++B)=A++((V1++ [v])++(U2++(C++((U1++ [u])++(V2++B))))):=by simp
   rw[f1]at ho';obtain⟨a,ha,hu1⟩:=eH ho' (i:=A.length+U1.length) (by rw[ac];omega);have ho'':=ho';rw[f2]at ho'';obtain⟨a',ha',hv1⟩:=eH ho'' (i:=A.length+(U1.length+(U2.length+1))+C.length+U1.length) (by simp only[ac,aj];omega);rw[ha]at ha';cases ha';refine⟨⟨by omega,by omega⟩,a,ha,v.1,hv1 0 _ rfl,v.2,hv1 1 _ rfl,d9 z0 v.1,hv1 2 _ rfl,⟨by omega,by omega⟩,a,ha,u.1,hu1 0 _ rfl,u.2,hu1 1 _ rfl,d9 z0 u.1,hu1 2 _ rfl,⟨by omega,by omega⟩,a,ha,?_⟩
   refine kH ho' v ha (by rw[ac];omega) fun h2 o2 k2=>⟨⟨by omega,by omega⟩,a,ha,?_⟩
   rw[f3]at o2;refine kH o2 u ha (by first|omega|(simp;done)|(simp;omega)) fun h3 o3 k3=>?_
   rw[f4]at o3;rw[hE (n:=U1.length+(U2.length+1)) (by omega) (by omega)];exact hI ((U1++ [u],U2),V1++ [v],V2) _ _ ⟨by simp,by simp,by simp,by simp[hl],o3,(hu.trans k2 fun b hb=>.inl hb).trans k3 fun b hb=>.inl hb⟩ (by simp)
 ·simp only[ac]at hge
  have h1:U2= []:=av.1 (by omega);have h2:V2= []:=av.1 (by rw[h1,aB]at huv;omega);subst h1 h2;simp only[aG,cd]at ho' hk;exact hk h' ho' hu
theorem NN{M:Nat→Prop}{h:af}{s:SliceV}{A U V B:List (Pr)}(ho:OwnS (rK z0) 3 aQ M h s (A++(U++(V++B))))(hn:s.len≤1000000000)(hU:0<U.length)(hV:0<V.length){a m b:Nat}(ha:a=A.length)(hm:m=A.length+U.length)(hb:b=A.length+U.length+V.length){cmp:Value}{K:Unit→af→Prop}
  (hk:∀h',OwnS (rK z0) 3 aQ M h' s (A++(V++(U++B)))→Upd M h h'→K () h'):HC PG fM [.slice s.a s.len s.cap,.int .i64 a,.int .i64 m,.int .i64 b,cmp] [] K h:=by
 subst ha hm hb;refine oH s A.length (A.length+U.length:Nat) (A.length+U.length+V.length:Nat) cmp ?_;unfold jj;have hlen:=ho.len;simp only[ac]at hlen;have e1:IntKind.wrap .i64 (((A.length+U.length:Nat):Int)-(A.length:Int))=(U.length:Int):=by rw[cS (by omega)];omega
 have e2:IntKind.wrap .i64 (((A.length+U.length+V.length:Nat):Int)-((A.length+U.length:Nat):Int))=(V.length:Int):=by rw[cS (by omega)];omega
 rw[e1,e2];refine LoopP.ghost (fun(g:(List (Pr)×List (Pr))×List (Pr)×List (Pr)) (t:Int×Int) h'=>t.1=(g.1.2.length:Int)∧t.2=(g.2.1.length:Int)∧0<g.1.2.length∧0<g.2.1.length∧A.length+U.length=g.1.1.length+g.1.2.length∧g.1.1++(g.2.1++(g.1.2++g.2.2))=A++(V++(U++B))∧OwnS (rK z0) 3 aQ M h' s (g.1.1++(g.1.2++(g.2.1++g.2.2)))∧Upd M h h') (fun g=>g.1.2.length+g.2.1.length) ((A,U),V,B)
  ⟨rfl,rfl,hU,hV,rfl,rfl,ho,Upd.refl _ _⟩ ?_
 rintro I ⟨⟨A',U'⟩,V',B'⟩ ⟨ti,tj⟩ h' ⟨e1,e2,hU',hV',hmid,htgt,ho',hu⟩ hI;simp only at e1 e2 hU' hV' hmid htgt ho';subst e1 e2;have hlen':=ho'.len;simp only[ac]at hlen';have hmm:((A.length+U.length:Nat):Int)=((A'.length+U'.length:Nat):Int):=by omega
 rw[hmm];have ew:IntKind.wrap .i64 (((A'.length+U'.length:Nat):Int)-(U'.length:Int))=(A'.length:Int):=by rw[cS (by omega)];omega
 simp only;rw[ew];refine CondP.intro (fun hne=>?_) fun heq=>?_
 ·have hne:(U'.length:Int)≠(V'.length:Int):=by simpa using hne
  refine ax (fun hgt=>?_) fun hle=>?_
  ·
   have hgt:V'.length<U'.length:=by omega
   obtain⟨U1,U2,rfl,hl1⟩:∃U1 U2,U'=U1++U2∧U1.length=V'.length:=⟨U'.take V'.length,U'.drop V'.length,(aE ..).symm,by rw[aI];omega⟩
   simp only[ac]at hgt hlen' hmid hne ew;have f1:A'++((U1++U2)++(V'++B'))=A'++(U1++(U2++(V'++B'))):=by simp
   have f2:A'++(V'++(U2++(U1++B')))=(A'++V')++(U2++(U1++B')):=by simp
   rw[f1]at ho';refine uH ho' hn hl1 rfl (b:=A'.length+(U1++U2).length) (by simp only[ac];omega) (n:=V'.length) hl1.symm fun h2 o2 k2=>?_
   rw[f2]at o2;have ew2:IntKind.wrap .i64 (((U1++U2).length:Int)-(V'.length:Int))=(U2.length:Int):=by rw[ac,cS (by omega)];omega
   rw[ew2];refine hI ((A'++V',U2),U1,B') _ _ ⟨rfl,by simp only;omega,by simp only;omega,by simp only;omega,by simp only[ac];omega,?_,o2,hu.trans k2 fun b hb=>.inl hb⟩ (by simp only[ac];omega)
   rw[←htgt];simp
  ·have hlt:U'.length<V'.length:=by omega
   obtain⟨V1,V2,rfl,hl1⟩:∃V1 V2,V'=V1++V2∧V2.length=U'.length:=⟨V'.take (V'.length-U'.length),V'.drop (V'.length-U'.length),(aE ..).symm,by rw[aN];omega⟩
   simp only[ac]at hlt hlen' hne;have ew2:IntKind.wrap .i64 ((IntKind.wrap .i64 (((A'.length+U'.length:Nat):Int)+((V1++V2).length:Int)))-(U'.length:Int))=((A'.length+U'.length+V1.length:Nat):Int):=by
    rw[ac,cS (x:=((A'.length+U'.length:Nat):Int)+((V1.length+V2.length:Nat):Int)) (by omega),cS (by omega)];omega
   rw[ew2];have f1:A'++(U'++((V1++V2)++B'))=A'++(U'++(V1++(V2++B'))):=by simp
   rw[f1]at ho';refine uH ho' hn hl1.symm rfl rfl rfl fun h2 o2 k2=>?_
   have ew3:IntKind.wrap .i64 (((V1++V2).length:Int)-(U'.length:Int))=(V1.length:Int):=by rw[ac,cS (by omega)];omega
   rw[ew3];refine hI ((A',V2),V1,U'++B') _ _ ⟨by simp only;omega,rfl,by simp only;omega,by simp only;omega,by simp only;omega,?_,o2,hu.trans k2 fun b hb=>.inl hb⟩ (by simp only[ac];omega)
   rw[←htgt];simp
 ·have heq:(U'.length:Int)=(V'.length:Int):=by simpa using heq
  have f1:A'++(U'++(V'++B'))=A'++(U'++([]++(V'++B'))):=by simp
  rw[f1]at ho';refine uH ho' hn (by omega) rfl (b:=A'.length+U'.length) (by simp) rfl fun h2 o2 k2=>?_
  rw[cd,htgt]at o2;exact hk h2 o2 (hu.trans k2 fun b hb=>.inl hb)
theorem D8{lt:Pr→Pr→Bool}(w:WO lt){M:Nat→Prop}{Iv:af→Prop}{cmp:Value}(hc:Cmp lt (rK z0) M Iv cmp){h:af}{s:SliceV}{A S B:List (Pr)}(ho:OwnS (rK z0) 3 aQ M h s (A++(S++B)))(hi:Iv h)(hn:s.len≤1000000000){a b:Nat}(ha:a=A.length)(hb:b=A.length+S.length){K:Unit→af→Prop}
  (hk:∀h' R,OwnS (rK z0) 3 aQ M h' s (A++(R++B))→St lt S R→Upd M h h'→K () h'):HC PG cU [.slice s.a s.len s.cap,.int .i64 a,.int .i64 b,cmp] [] K h:=by
 subst ha hb;refine lA s A.length (A.length+S.length:Nat) cmp ?_;unfold gp ae bS;have hlen:=ho.len;simp only[ac]at hlen;have ea:IntKind.wrap .i64 ((A.length:Int)+1)=((A.length+1:Nat):Int):=by rw[cS (by omega)];omega
 rw[ea];refine LoopP.ghost (fun(g:List (Pr)×List (Pr)×List (Pr)) (t:Int) h'=>t=((A.length+max 1 g.1.length:Nat):Int)∧S=g.1++g.2.2∧(g.1= []→g.2.2= [])∧St lt g.1 g.2.1∧OwnS (rK z0) 3 aQ M h' s (A++(g.2.1++(g.2.2++B)))∧Upd M h h') (fun g=>g.2.2.length) (S.take 1,S.take 1,S.drop 1)
  ⟨?_,(aE ..).symm,fun e=>?_,⟨Eqf.rfl _,?_⟩,by rw[←ao (S.take 1),aE];exact ho,Upd.refl _ _⟩ ?_
 ·simp only[aI];omega
 ·have:=congrArg List.length e
  simp only[aI,aB]at this;exact av.1 (by simp only[aN];omega)
 ·match S with
  | []=>exact Srt.nil
  |x::S=>exact Srt.one x
 rintro I ⟨S1,R1,T⟩ t h' ⟨e1,e2,hemp,hst,ho',hu⟩ hI;simp only at e1 e2 hemp hst ho';subst e1 e2;simp only[ac]at hlen;have hR1:=hst.eqf.len;refine ax (fun hlt=>?_) fun hge=>?_
 ·simp only[ac]at hlt
  have hS1:S1≠[]:=fun e=>by
   have:=hemp e;subst e;subst this;simp only[aB]at hlt;omega
  have hS1l:0<S1.length:=List.length_pos_iff.2 hS1;match T with
  | []=>simp only[aB]at hlt;omega
  |x::T=>
   have emax:A.length+max 1 S1.length=A.length+S1.length:=by omega
   rw[emax];refine LoopP.ghost (fun(g:List (Pr)×List (Pr)) (t:Int) h2=>t=((A.length+g.1.length:Nat):Int)∧R1=g.1++g.2∧(∀y∈g.2,lt x y=true)∧OwnS (rK z0) 3 aQ M h2 s (A++(g.1++(x::(g.2++(T++B)))))∧Upd M h h2) (fun g=>g.1.length) (R1,[])
    ⟨by simp only;omega,by simp,fun y hy=>(by cases hy),by simpa using ho',hu⟩ ?_
   rintro I2 ⟨L,G⟩ t2 h2 ⟨e1,e2,hG,ho2,hu2⟩ hI2;simp only at e1 e2 hG ho2;subst e1 e2;simp only[ac]at hR1;simp only[aj]at hlen;refine Join.intro (fun t h3=>Upd M h h3∧OwnS (rK z0) 3 aQ M h3 s (A++(L++(x::(G++(T++B)))))∧(t=true→∃L' y,L=L'++ [y]∧lt x y=true)∧(t=false→∀y∈L,lt x y=false)) (fun Rj hRj=>?_) ?_
   ·refine ax (fun hgt=>?_) fun hle=>?_
    ·rcases yA L with rfl|⟨L',y,rfl⟩
     ·simp only[aB]at hgt;omega
     have hlL:(L'++ [y]).length=L'.length+1:=by simp
     have ew:IntKind.wrap .i64 (((A.length+(L'++ [y]).length:Nat):Int)-1)=((A.length+L'.length:Nat):Int):=by rw[hlL,cS (by omega)];omega
     rw[ew];have f1:A++((L'++ [y])++(x::(G++(T++B))))=(A++L')++y::(x::(G++(T++B))):=by simp
     have f2:A++((L'++ [y])++(x::(G++(T++B))))=(A++(L'++ [y]))++x::(G++(T++B)):=by simp
     have o3:=ho2;have o4:=ho2;rw[f1]at o3;rw[f2]at o4;obtain⟨a,ha,hy⟩:=eH o3 (i:=A.length+L'.length) (by first|omega|(simp;done)|(simp;omega))
     obtain⟨a',ha',hx⟩:=eH o4 (i:=A.length+(L'++ [y]).length) (by first|omega|(simp;done)|(simp;omega))
     rw[ha]at ha';cases ha';refine⟨⟨by omega,by omega⟩,a,ha,x.1,hx 0 _ rfl,x.2,hx 1 _ rfl,d9 z0 x.1,hx 2 _ rfl,⟨by omega,by omega⟩,a,ha,y.1,hy 0 _ rfl,y.2,hy 1 _ rfl,d9 z0 y.1,hy 2 _ rfl,?_⟩
     refine hc.call x y (hc.step hu2 hi) fun h5 e k5 he=>?_
     rw[he];have ho5:=ho2.upd k5 fun _ _ h=>h
     refine hRj _ _ ⟨hu2.tr k5.wide,ho5,fun h=>⟨L',y,rfl,h⟩,fun h z hz=>?_⟩
     have hs:=hst.srt.left;rcases bd.1 hz with hz|hz
     ·exact w.ntr x y z h (hs.cross z hz y (aC.2 rfl))
     ·rw[aC.1 hz];exact h
    ·have hL:L= []:=av.1 (by omega)
     exact hRj _ _ ⟨hu2,ho2,fun h=>(by cases h),fun _ y hy=>(by rw[hL]at hy;cases hy)⟩
   ·rintro t3 h3 ⟨hu3,ho3,ht,hf⟩
    cases t3 with
    |true=>
     obtain⟨L',y,rfl,hxy⟩:=ht rfl;have hlL:(L'++ [y]).length=L'.length+1:=by simp
     refine au.2 ?_;have ew:IntKind.wrap .i64 (((A.length+(L'++ [y]).length:Nat):Int)-1)=((A.length+L'.length:Nat):Int):=by rw[hlL,cS (by omega)];omega
     rw[ew];have f1:A++((L'++ [y])++(x::(G++(T++B))))=(A++L')++y::(x::(G++(T++B))):=by simp
     have f2:(A++L')++y::(x::(G++(T++B)))=(A++(L'++ [y]))++x::(G++(T++B)):=by simp
     have f3:(A++(L'++ [y]))++y::(G++(T++B))=(A++L')++y::(y::(G++(T++B))):=by simp
     have f4:(A++L')++x::(y::(G++(T++B)))=A++(L'++(x::((y::G)++(T++B)))):=by simp
     rw[f1]at ho3;have o4:=ho3;rw[f2]at o4;obtain⟨a,ha,hy⟩:=eH ho3 (i:=A.length+L'.length) (by first|omega|(simp;done)|(simp;omega))
     obtain⟨a',ha',hx⟩:=eH o4 (i:=A.length+(L'++ [y]).length) (by first|omega|(simp;done)|(simp;omega))
     rw[ha]at ha';cases ha';refine⟨⟨by omega,by omega⟩,a,ha,y.1,hy 0 _ rfl,y.2,hy 1 _ rfl,d9 z0 y.1,hy 2 _ rfl,⟨by omega,by omega⟩,a,ha,x.1,hx 0 _ rfl,x.2,hx 1 _ rfl,d9 z0 x.1,hx 2 _ rfl,⟨by omega,by omega⟩,a,ha,?_⟩
     refine kH o4 y ha (by first|omega|(simp;done)|(simp;omega)) fun h5 o5 k5=>⟨⟨by omega,by omega⟩,a,ha,?_⟩
     rw[f3]at o5;refine kH o5 x ha (by first|omega|(simp;done)|(simp;omega)) fun h6 o6 k6=>?_
     rw[f4]at o6;refine hI2 (L',y::G) _ _ ⟨rfl,by simp,fun z hz=>?_,o6,(hu3.trans k5 fun b hb=>.inl hb).trans k6 fun b hb=>.inl hb⟩ (by simp only[hlL];omega)
     rcases az.1 hz with rfl|hz
     ·exact hxy
     ·exact hG z hz
    |false=>
     refine ak.2 ?_;have ew:IntKind.wrap .i64 (((A.length+S1.length:Nat):Int)+1)=((A.length+max 1 (S1.length+1):Nat):Int):=by rw[cS (by omega)];omega
     rw[ew];refine hI (S1++ [x],L++x::G,T) _ _ ⟨by simp,by simp,fun e=>(by simp at e),JD w hst (hf rfl) hG,?_,hu3⟩ (by simp)
     have f1:A++((L++x::G)++(T++B))=A++(L++(x::(G++(T++B)))):=by simp
     rw[f1];exact ho3
 ·simp only[ac]at hge
  have hT:T= []:=by
   rcases cx S1.length with h0|h0
   ·exact hemp (av.1 h0)
   ·exact av.1 (by omega)
  subst hT;rw[cd]at ho';rw[aG]at hk;exact hk h' R1 ho' hst hu
theorem AG{lt:Pr→Pr→Bool}(w:WO lt){M:Nat→Prop}{Iv:af→Prop}{cmp:Value}(hc:Cmp lt (rK z0) M Iv cmp){s:SliceV}(hn:s.len≤1000000000):∀(n:Nat) {h:af} {A U V B:List (Pr)},U.length+V.length≤n→OwnS (rK z0) 3 aQ M h s (A++(U++(V++B)))→Iv h→0<U.length→0<V.length→Srt lt U→Srt lt V→∀{a m b:Nat},a=A.length→m=A.length+U.length→b=A.length+U.length+V.length→∀{K:Unit→af→Prop},
  (∀h' R,OwnS (rK z0) 3 aQ M h' s (A++(R++B))→St lt (U++V) R→Upd M h h'→K () h')→HC PG cr [.slice s.a s.len s.cap,.int .i64 a,.int .i64 m,.int .i64 b,cmp] [] K h:=by
 intro n;induction n with
 |zero=>intro h A U V B hl _ _ hU;omega
 |succ n ih=>
  intro h A U V B hl ho hi hU hV sU sV a m b ha hm hb K hk;refine nH s a m b cmp ?_;unfold iI ae bS;have hlen:=ho.len;simp only[ac]at hlen;have e1:IntKind.wrap .i64 ((m:Int)-(a:Int))=(U.length:Int):=by rw[cS (by omega)];omega
  have e2:IntKind.wrap .i64 ((b:Int)-(m:Int))=(V.length:Int):=by rw[cS (by omega)];omega
  rw[e1,e2];refine CondP.intro (fun hone=>?_) fun hmore=>?_
  ·have hone:U.length=1:=by have:=eq_of_beq hone;omega
   match U,hone with
   | [u],_=>
   simp only[aJ]at hlen hm hb;refine LoopP.ghost (fun(g:Nat×Nat) (t:Int×Int) h'=>t.1=(g.1:Int)∧t.2=(g.2:Int)∧m≤g.1∧g.1≤g.2∧g.2≤b∧(∀q x,V[q]? =some x→m+q<g.1→lt x u=true)∧(∀q x,V[q]? =some x→g.2≤m+q→lt x u=false)∧OwnS (rK z0) 3 aQ M h' s (A++([u]++(V++B)))∧Upd M h h') (fun g=>g.2-g.1) (m,b)
    ⟨rfl,rfl,aq _,by simp only;omega,aq _,fun q x hq h=>(by simp only at h;omega),fun q x hq h=>(by have:=(bj.1 hq).1;simp only at h;omega),ho,Upd.refl _ _⟩ ?_
   rintro I ⟨i,j⟩ ⟨ti,tj⟩ h' ⟨e1,e2,hmi,hij,hjb,hlo,hhi,ho',hu⟩ hI;simp only at e1 e2 hmi hij hjb hlo hhi;subst e1 e2;refine ax (fun hlt=>?_) fun hge=>?_
   ·have hlt:i<j:=by have:(i:Int)<(j:Int):=hlt;omega
    refine⟨by decide,?_⟩;simp only[Bd];rw[tW (by omega)];have hk1:(i+j)/2-m<V.length:=by omega
    have hk0:(i+j)/2=A.length+1+((i+j)/2-m):=by omega
    obtain⟨a1,ha1,hx⟩:=qX ho' (i:=(i+j)/2) (x:=V[(i+j)/2-m]) (Ke (U:= [u]) (k:=(i+j)/2-m) (by simp only[aJ];omega) (ai hk1));obtain⟨a2,ha2,hy⟩:=eH (P:=A) (x:=u) (Q:=V++B) ho' ha;rw[ha1]at ha2;cases ha2;have hVk:V[(i+j)/2-m]? =some V[(i+j)/2-m]:=ai hk1;generalize V[(i+j)/2-m]=x at hx hVk;refine⟨⟨by omega,by omega⟩,a1,ha1,x.1,hx 0 _ rfl,x.2,hx 1 _ rfl,d9 z0 x.1,hx 2 _ rfl,⟨by omega,by omega⟩,a1,ha1,u.1,hy 0 _ rfl,u.2,hy 1 _ rfl,d9 z0 u.1,hy 2 _ rfl,?_⟩
    refine hc.call x u (hc.step hu hi) fun h5 e k5 he=>?_
    rw[he];have ho5:=ho'.upd k5 fun _ _ h=>h
    have hu5:=hu.tr k5.wide;cases hxu:lt x u with
    |true=>
     refine au.2 ?_;have ew:IntKind.wrap .i64 ((((i+j)/2:Nat):Int)+1)=(((i+j)/2+1:Nat):Int):=by rw[cS (by omega)];omega
     rw[ew];refine hI ((i+j)/2+1,j) _ _ ⟨rfl,rfl,by simp only;omega,by simp only;omega,hjb,fun q y hq hqi=>?_,hhi,ho5,hu5⟩ (by simp only;omega)
     have hle:=iZ w sV (i:=q) (j:=(i+j)/2-m) (by simp only at hqi;omega) hq hVk;cases hyu:lt y u with
     |true=>rfl
     |false=>rw[w.ntr _ _ _ hle hyu]at hxu;cases hxu
    |false=>
     refine ak.2 ?_;refine hI (i,(i+j)/2) _ _ ⟨rfl,rfl,hmi,by simp only;omega,by simp only;omega,hlo,fun q y hq hqi=>?_,ho5,hu5⟩ (by simp only;omega)
     have hle:=iZ w sV (i:=(i+j)/2-m) (j:=q) (by simp only at hqi;omega) hVk hq;exact w.ntr _ _ _ hle hxu
   ·have hij:i=j:=by have:¬(i:Int)<(j:Int):=hge;omega
    subst hij;obtain⟨V1,V2,rfl,hV1⟩:∃V1 V2,V=V1++V2∧V1.length=i-m:=⟨V.take (i-m),V.drop (i-m),(aE ..).symm,by rw[aI];omega⟩
    simp only[ac]at hlen hb;have lo1:∀x∈V1,lt x u=true:=fun x hx=>by
     obtain⟨q,hq,e⟩:=aU hx;exact hlo q x (by rw[bC hq,ai hq,e]) (by omega)
    have hi1:∀x∈V2,lt x u=false:=fun x hx=>by
     obtain⟨q,hq,e⟩:=aU hx;exact hhi (V1.length+q) x (by rw[aH (by omega),cl,ai hq,e]) (by omega)
    have hst:=AH w sV lo1 hi1;have f0:A++([u]++((V1++V2)++B))=A++([]++(u::(V1++(V2++B)))):=by simp
    rw[f0]at ho';have ew:IntKind.wrap .i64 ((i:Int)-1)=((A.length+V1.length:Nat):Int):=by rw[cS (by omega)];omega
    rw[ew];refine LoopP.ghost (fun(g:List (Pr)×List (Pr)) (t:Int) h2=>t=((A.length+g.1.length:Nat):Int)∧V1=g.1++g.2∧OwnS (rK z0) 3 aQ M h2 s (A++(g.1++(u::(g.2++(V2++B)))))∧Upd M h h2) (fun g=>g.2.length) ([],V1)
     ⟨by simp[ha],rfl,ho',hu⟩ ?_
    rintro I2 ⟨G1,G2⟩ t2 h2 ⟨e1,e2,ho2,hu2⟩ hI2;simp only at e1 e2 ho2;subst e1 e2;simp only[ac]at hlen hb ew⊢;refine ax (fun hlt=>?_) fun hge=>?_
    ·match G2 with
     | []=>simp only[aB]at hlt;omega
     |g::G2=>
      simp only[aj]at hlen;have ew1:IntKind.wrap .i64 (((A.length+G1.length:Nat):Int)+1)=((A.length+G1.length+1:Nat):Int):=by rw[cS (by omega)];omega
      rw[ew1];have f1:A++(G1++(u::((g::G2)++(V2++B))))=(A++G1)++u::(g::(G2++(V2++B))):=by simp
      have f2:(A++G1)++u::(g::(G2++(V2++B)))=(A++(G1++ [u]))++g::(G2++(V2++B)):=by simp
      have f3:(A++G1)++g::(g::(G2++(V2++B)))=(A++(G1++ [g]))++g::(G2++(V2++B)):=by simp
      have f4:(A++(G1++ [g]))++u::(G2++(V2++B))=A++((G1++ [g])++(u::(G2++(V2++B)))):=by simp
      rw[f1]at ho2;have o3:=ho2;rw[f2]at o3;obtain⟨a1,ha1,hy⟩:=eH o3 (i:=A.length+G1.length+1) (by first|omega|(simp;done)|(simp;omega))
      obtain⟨a2,ha2,hx⟩:=eH ho2 (i:=A.length+G1.length) (by first|omega|(simp;done)|(simp;omega))
      rw[ha1]at ha2;cases ha2;refine⟨⟨by omega,by omega⟩,a1,ha1,g.1,hy 0 _ rfl,g.2,hy 1 _ rfl,d9 z0 g.1,hy 2 _ rfl,⟨by omega,by omega⟩,a1,ha1,u.1,hx 0 _ rfl,u.2,hx 1 _ rfl,d9 z0 u.1,hx 2 _ rfl,⟨by omega,by omega⟩,a1,ha1,?_⟩
      refine kH ho2 g ha1 (by first|omega|(simp;done)|(simp;omega)) fun h5 o5 k5=>⟨⟨by omega,by omega⟩,a1,ha1,?_⟩
      rw[f3]at o5;refine kH o5 u ha1 (by first|omega|(simp;done)|(simp;omega)) fun h6 o6 k6=>?_
      rw[f4]at o6;exact hI2 (G1++ [g],G2) _ _ ⟨by simp;omega,by simp,o6,(hu2.trans k5 fun b hb=>.inl hb).trans k6 fun b hb=>.inl hb⟩ (by simp)
    ·have hG:G2= []:=av.1 (by omega)
     subst hG;simp only[aG,cd]at ho2 hst hk;refine hk h2 (G1++u::V2) ?_ hst hu2;have f1:A++((G1++u::V2)++B)=A++(G1++(u::(V2++B))):=by simp
     rw[f1];exact ho2
  refine CondP.intro (fun hone=>?_) fun hmore2=>?_
  ·have hone:V.length=1:=by have:=eq_of_beq hone;omega
   match V,hone with
   | [v],_=>
   simp only[aJ]at hlen hb;refine LoopP.ghost (fun(g:Nat×Nat) (t:Int×Int) h'=>t.1=(g.1:Int)∧t.2=(g.2:Int)∧a≤g.1∧g.1≤g.2∧g.2≤m∧(∀q x,U[q]? =some x→a+q<g.1→lt v x=false)∧(∀q x,U[q]? =some x→g.2≤a+q→lt v x=true)∧OwnS (rK z0) 3 aQ M h' s (A++(U++([v]++B)))∧Upd M h h') (fun g=>g.2-g.1) (a,m)
    ⟨rfl,rfl,aq _,by simp only;omega,aq _,fun q x hq h=>(by simp only at h;omega),fun q x hq h=>(by have:=(bj.1 hq).1;simp only at h;omega),ho,Upd.refl _ _⟩ ?_
   rintro I ⟨i,j⟩ ⟨ti,tj⟩ h' ⟨e1,e2,hmi,hij,hjb,hlo,hhi,ho',hu⟩ hI;simp only at e1 e2 hmi hij hjb hlo hhi;subst e1 e2;refine ax (fun hlt=>?_) fun hge=>?_
   ·have hlt:i<j:=by have:(i:Int)<(j:Int):=hlt;omega
    refine⟨by decide,?_⟩;simp only[Bd];rw[tW (by omega)];have hk1:(i+j)/2-a<U.length:=by omega
    obtain⟨a1,ha1,hx⟩:=qX ho' (i:=(i+j)/2) (x:=U[(i+j)/2-a]) (Fd (k:=(i+j)/2-a) (by omega) (ai hk1));have f1:A++(U++([v]++B))=(A++U)++v::B:=by simp
    have o3:=ho';rw[f1]at o3;obtain⟨a2,ha2,hy⟩:=eH o3 (i:=m) (by first|omega|(simp;done)|(simp;omega))
    rw[ha1]at ha2;cases ha2;have hVk:U[(i+j)/2-a]? =some U[(i+j)/2-a]:=ai hk1;generalize U[(i+j)/2-a]=x at hx hVk;refine⟨⟨by omega,by omega⟩,a1,ha1,v.1,hy 0 _ rfl,v.2,hy 1 _ rfl,d9 z0 v.1,hy 2 _ rfl,⟨by omega,by omega⟩,a1,ha1,x.1,hx 0 _ rfl,x.2,hx 1 _ rfl,d9 z0 x.1,hx 2 _ rfl,?_⟩
    refine hc.call v x (hc.step hu hi) fun h5 e k5 he=>?_
    rw[he];have ho5:=ho'.upd k5 fun _ _ h=>h
    have hu5:=hu.tr k5.wide;cases hxu:lt v x with
    |false=>
     refine au.2 ?_;have ew:IntKind.wrap .i64 ((((i+j)/2:Nat):Int)+1)=(((i+j)/2+1:Nat):Int):=by rw[cS (by omega)];omega
     rw[ew];refine hI ((i+j)/2+1,j) _ _ ⟨rfl,rfl,by simp only;omega,by simp only;omega,hjb,fun q y hq hqi=>?_,hhi,ho5,hu5⟩ (by simp only;omega)
     exact w.ntr _ _ _ hxu (iZ w sU (i:=q) (j:=(i+j)/2-a) (by simp only at hqi;omega) hq hVk)
    |true=>
     refine ak.2 ?_;refine hI (i,(i+j)/2) _ _ ⟨rfl,rfl,hmi,by simp only;omega,by simp only;omega,hlo,fun q y hq hqi=>?_,ho5,hu5⟩ (by simp only;omega)
     have hle:=iZ w sU (i:=(i+j)/2-a) (j:=q) (by simp only at hqi;omega) hVk hq;cases hvy:lt v y with
     |true=>rfl
     |false=>rw[w.ntr _ _ _ hvy hle]at hxu;cases hxu
   ·have hij:i=j:=by have:¬(i:Int)<(j:Int):=hge;omega
    subst hij;obtain⟨U1,U2,rfl,hU1⟩:∃U1 U2,U=U1++U2∧U1.length=i-a:=⟨U.take (i-a),U.drop (i-a),(aE ..).symm,by rw[aI];omega⟩
    simp only[ac]at hlen hb hm;have lo1:∀x∈U1,lt v x=false:=fun x hx=>by
     obtain⟨q,hq,e⟩:=aU hx;exact hlo q x (by rw[bC hq,ai hq,e]) (by omega)
    have hi1:∀x∈U2,lt v x=true:=fun x hx=>by
     obtain⟨q,hq,e⟩:=aU hx;exact hhi (U1.length+q) x (by rw[aH (by omega),cl,ai hq,e]) (by omega)
    have hst:=DS w sU lo1 hi1;have f0:A++((U1++U2)++([v]++B))=A++(U1++(U2++(v::([]++B)))):=by simp
    rw[f0]at ho';refine LoopP.ghost (fun(g:List (Pr)×List (Pr)) (t:Int) h2=>t=((A.length+U1.length+g.1.length:Nat):Int)∧U2=g.1++g.2∧OwnS (rK z0) 3 aQ M h2 s (A++(U1++(g.1++(v::(g.2++B)))))∧Upd M h h2) (fun g=>g.1.length) (U2,[])
     ⟨by simp only;omega,by simp,ho',hu⟩ ?_
    rintro I2 ⟨G1,G2⟩ t2 h2 ⟨e1,e2,ho2,hu2⟩ hI2;simp only at e1 e2 ho2;subst e1 e2;simp only[ac]at hlen hb hm⊢;refine ax (fun hgt=>?_) fun hle=>?_
    ·rcases yA G1 with rfl|⟨G1',g,rfl⟩
     ·simp only[aB]at hgt;omega
     simp only[ac,aJ]at hlen hb hm hgt⊢;have ew1:IntKind.wrap .i64 (((A.length+U1.length+(G1'.length+1):Nat):Int)-1)=((A.length+U1.length+G1'.length:Nat):Int):=by rw[cS (by omega)];omega
     rw[ew1];have f1:A++(U1++((G1'++ [g])++(v::(G2++B))))=(A++(U1++(G1'++ [g])))++v::(G2++B):=by simp
     have f2:(A++(U1++(G1'++ [g])))++v::(G2++B)=(A++(U1++G1'))++g::(v::(G2++B)):=by simp
     have f3:(A++(U1++(G1'++ [g])))++g::(G2++B)=(A++(U1++G1'))++g::(g::(G2++B)):=by simp
     have f4:(A++(U1++G1'))++v::(g::(G2++B))=A++(U1++(G1'++(v::((g::G2)++B)))):=by simp
     rw[f1]at ho2;have o3:=ho2;rw[f2]at o3;obtain⟨a1,ha1,hy⟩:=eH o3 (i:=A.length+U1.length+G1'.length) (by first|omega|(simp;done)|(simp;omega))
     obtain⟨a2,ha2,hx⟩:=eH ho2 (i:=A.length+U1.length+(G1'.length+1)) (by first|omega|(simp;done)|(simp;omega))
     rw[ha1]at ha2;cases ha2;refine⟨⟨by omega,by omega⟩,a1,ha1,g.1,hy 0 _ rfl,g.2,hy 1 _ rfl,d9 z0 g.1,hy 2 _ rfl,⟨by omega,by omega⟩,a1,ha1,v.1,hx 0 _ rfl,v.2,hx 1 _ rfl,d9 z0 v.1,hx 2 _ rfl,⟨by omega,by omega⟩,a1,ha1,?_⟩
     refine kH ho2 g ha1 (by first|omega|(simp;done)|(simp;omega)) fun h5 o5 k5=>⟨⟨by omega,by omega⟩,a1,ha1,?_⟩
     rw[f3]at o5;refine kH o5 v ha1 (by first|omega|(simp;done)|(simp;omega)) fun h6 o6 k6=>?_
     rw[f4]at o6;exact hI2 (G1',g::G2) _ _ ⟨rfl,by simp,o6,(hu2.trans k5 fun b hb=>.inl hb).trans k6 fun b hb=>.inl hb⟩ (by simp)
    ·have hG:G1= []:=av.1 (by omega)
     subst hG;simp only[cd]at ho2 hst hk;refine hk h2 (U1++v::G2) ?_ hst hu2;have f1:A++((U1++v::G2)++B)=A++(U1++(v::(G2++B))):=by simp
     rw[f1];exact ho2
  have hU2:2≤U.length:=by
   have:(U.length:Int)≠1:=by simpa using hmore
   omega
  have hV2:2≤V.length:=by
   have:(V.length:Int)≠1:=by simpa using hmore2
   omega
  refine⟨by decide,?_⟩;simp only[Bd];rw[tW (i:=a) (j:=b) (by omega)];obtain⟨mid,hmid⟩:∃mid,(a+b)/2=mid:=⟨_,rfl⟩;rw[hmid];have em:IntKind.wrap .i64 ((mid:Int)+(m:Int))=((mid+m:Nat):Int):=by rw[cS (by omega)];omega
  rw[em];have ep:IntKind.wrap .i64 (((mid+m:Nat):Int)-1)=((mid+m-1:Nat):Int):=by rw[cS (by omega)];omega
  rw[ep];refine Join.intro (fun t h'=>h'=h∧∃s0 r0:Nat,t=((s0:Int),(r0:Int))∧a≤s0∧s0≤r0∧r0≤m∧r0≤mid∧mid+m≤b+s0∧(r0=mid∨r0=m)∧(s0=a∨s0+b=mid+m)) (fun Rj hRj=>?_) ?_
  ·refine ax (fun hgt=>?_) fun hle=>?_
   ·have es:IntKind.wrap .i64 (((mid+m:Nat):Int)-(b:Int))=((mid+m-b:Nat):Int):=by rw[cS (by omega)];omega
    rw[es];exact hRj _ _ ⟨rfl,_,_,rfl,by omega,by omega,by omega,by omega,by omega,by omega,by omega⟩
   ·exact hRj _ _ ⟨rfl,_,_,rfl,by omega,by omega,by omega,by omega,by omega,by omega,by omega⟩
  rintro t h' ⟨rfl,s0,r0,rfl,hs0,hsr,hrm,hrd,hsb,hr0,hs00⟩;refine LoopP.ghost (fun(g:Nat×Nat) (t:Int×Int) h2=>t.1=(g.1:Int)∧t.2=(g.2:Int)∧s0≤g.1∧g.1≤g.2∧g.2≤r0∧(∀c x y,s0≤c→c<g.1→U[c-a]? =some x→V[mid-1-c]? =some y→lt y x=false)∧(∀c x y,g.2≤c→c<r0→U[c-a]? =some x→V[mid-1-c]? =some y→lt y x=true)∧OwnS (rK z0) 3 aQ M h2 s (A++(U++(V++B)))∧Upd M h' h2) (fun g=>g.2-g.1) (s0,r0)
   ⟨rfl,rfl,aq _,hsr,aq _,fun c x y h1 h2=>(by simp only at h2;omega),fun c x y h1 h2=>(by simp only at h1;omega),ho,Upd.refl _ _⟩ ?_
  rintro I ⟨i,j⟩ ⟨ti,tj⟩ h2 ⟨e1,e2,hsi,hij,hjr,hlo,hhi,ho2,hu2⟩ hI;simp only at e1 e2 hsi hij hjr hlo hhi;subst e1 e2;refine ax (fun hlt=>?_) fun hge=>?_
  ·have hlt:i<j:=by have:(i:Int)<(j:Int):=hlt;omega
   refine⟨by decide,?_⟩;rw[tW (i:=i) (j:=j) (by omega)];obtain⟨c,hcc⟩:∃c,(i+j)/2=c:=⟨_,rfl⟩;rw[hcc];have hci:i≤c:=by omega
   have hcj:c<j:=by omega
   have eq:IntKind.wrap .i64 (((mid+m-1:Nat):Int)-(c:Int))=((mid+m-1-c:Nat):Int):=by rw[cS (by omega)];omega
   rw[eq];have hk1:c-a<U.length:=by omega
   have hk2:mid-1-c<V.length:=by omega
   obtain⟨a1,ha1,hx⟩:=qX ho2 (i:=c) (x:=U[c-a]) (Fd (k:=c-a) (by omega) (ai hk1));obtain⟨a2,ha2,hy⟩:=qX ho2 (i:=mid+m-1-c) (x:=V[mid-1-c]) (Ke (k:=mid-1-c) (by omega) (ai hk2));rw[ha1]at ha2;cases ha2;have hUc:U[c-a]? =some U[c-a]:=ai hk1;have hVc:V[mid-1-c]? =some V[mid-1-c]:=ai hk2;generalize U[c-a]=x at hx hUc
   generalize V[mid-1-c]=y at hy hVc;refine⟨⟨by omega,by omega⟩,a1,ha1,y.1,hy 0 _ rfl,y.2,hy 1 _ rfl,d9 z0 y.1,hy 2 _ rfl,⟨by omega,by omega⟩,a1,ha1,x.1,hx 0 _ rfl,x.2,hx 1 _ rfl,d9 z0 x.1,hx 2 _ rfl,?_⟩
   refine hc.call y x (hc.step hu2 hi) fun h5 e k5 he=>?_
   rw[he];have ho5:=ho2.upd k5 fun _ _ h=>h
   have hu5:=hu2.tr k5.wide;cases hyx:lt y x with
   |false=>
    refine au.2 ?_;have ew:IntKind.wrap .i64 ((c:Int)+1)=((c+1:Nat):Int):=by rw[cS (by omega)];omega
    rw[ew];refine hI (c+1,j) _ _ ⟨rfl,rfl,by simp only;omega,by simp only;omega,hjr,fun c' x' y' h1 h2 hx' hy'=>?_,hhi,ho5,hu5⟩ (by simp only;omega)
    simp only at h2;have q1:=iZ w sU (i:=c'-a) (j:=c-a) (by omega) hx' hUc;have q2:=iZ w sV (i:=mid-1-c) (j:=mid-1-c') (by omega) hVc hy';exact w.ntr _ _ _ (w.ntr _ _ _ q2 hyx) q1
   |true=>
    refine ak.2 ?_;refine hI (i,c) _ _ ⟨rfl,rfl,hsi,hci,by simp only;omega,hlo,fun c' x' y' h1 h2 hx' hy'=>?_,ho5,hu5⟩ (by simp only;omega)
    simp only at h1;have q1:=iZ w sU (i:=c-a) (j:=c'-a) (by omega) hUc hx';have q2:=iZ w sV (i:=mid-1-c') (j:=mid-1-c) (by omega) hy' hVc;cases hyx':lt y' x' with
    |true=>rfl
    |false=>rw[w.ntr _ _ _ (w.ntr _ _ _ q2 hyx') q1]at hyx;cases hyx
  have hij:i=j:=by have:¬(i:Int)<(j:Int):=hge;omega
  subst hij;have en:IntKind.wrap .i64 (((mid+m:Nat):Int)-(i:Int))=((mid+m-i:Nat):Int):=by rw[cS (by omega)];omega
  simp only;rw[en];obtain⟨U1,U2,eU,hU1⟩:∃U1 U2,U=U1++U2∧U1.length=i-a:=⟨U.take (i-a),U.drop (i-a),(aE ..).symm,by rw[aI];omega⟩
  obtain⟨V1,V2,eV,hV1⟩:∃V1 V2,V=V1++V2∧V1.length=mid-i:=⟨V.take (mid-i),V.drop (mid-i),(aE ..).symm,by rw[aI];omega⟩
  have c1:∀v∈V1,∀u∈U2,lt v u=true:=fun v hv u hu=>by
   obtain⟨q,hq,e⟩:=aU hv;obtain⟨p,hp,e'⟩:=aU hu;have hlU:U.length=U1.length+U2.length:=by rw[eU,ac]
   have n1:0<U2.length:=by omega
   have n2:mid-1-i<V1.length:=by omega
   have gx:U[i-a]? =some (U2[0]'n1):=by rw[eU,aH (by omega),←hU1,dk,ai (by omega)]
   have gy:V[mid-1-i]? =some (V1[mid-1-i]'n2):=by rw[eV,bC (by omega),ai (by omega)]
   have hQ:=hhi i _ _ (aq _) (by omega) gx gy;have q1:=iZ w sU (i:=i-a) (j:=i-a+p) (by omega) gx (by rw[eU,aH (by omega),←hU1,cl,ai hp,e']);have q2:=iZ w sV (i:=q) (j:=mid-1-i) (by omega) (by rw[eV,bC hq,ai hq,e]) gy;cases hvu:lt v u with
   |true=>rfl
   |false=>rw[w.ntr _ _ _ (w.ntr _ _ _ q2 hvu) q1]at hQ;cases hQ
  have c2:∀u∈U1,∀v∈V2,lt v u=false:=fun u hu v hv=>by
   obtain⟨p,hp,e'⟩:=aU hu;obtain⟨q,hq,e⟩:=aU hv;have hlV:V.length=V1.length+V2.length:=by rw[eV,ac]
   have n1:i-1-a<U1.length:=by omega
   have n2:0<V2.length:=by omega
   have gx:U[i-1-a]? =some (U1[i-1-a]'n1):=by rw[eU,bC (by omega),ai (by omega)]
   have gy:V[mid-1-(i-1)]? =some (V2[0]'n2):=by rw[eV,aH (by omega),show mid-1-(i-1)-V1.length=0 by omega,ai (by omega)]
   have hQ:=hlo (i-1) _ _ (by omega) (by omega) gx gy;have q1:=iZ w sU (i:=p) (j:=i-1-a) (by omega) (by rw[eU,bC hp,ai hp,e']) gx;have q2:=iZ w sV (i:=mid-i) (j:=mid-i+q) (by omega) (by rw[eV,aH (by omega),hV1,dk,ai (by omega)]) (by rw[eV,aH (by omega),hV1,cl,ai hq,e])
   have gy2:V[mid-i]? =some (V2[0]'n2):=by rw[eV,aH (by omega),hV1,dk,ai (by omega)]
   exact w.ntr _ _ _ (w.ntr _ _ _ q2 hQ) q1
  subst eU eV;simp only[ac]at hlen hU hV hl hm hb hU2 hV2;have sA1:=sU.left;have sA2:=sU.right;have sB1:=sV.left;have sB2:=sV.right;refine Join.intro (fun _ h3=>OwnS (rK z0) 3 aQ M h3 s (A++(U1++(V1++(U2++(V2++B)))))∧Upd M h' h3) (fun Rj hRj=>?_) ?_
  ·have f1:A++((U1++U2)++((V1++V2)++B))=(A++U1)++(U2++(V1++(V2++B))):=by simp
   have f2:(A++U1)++(V1++(U2++(V2++B)))=A++(U1++(V1++(U2++(V2++B)))):=by simp
   refine Join.intro (fun t h3=>h3=h2∧(t=true↔0<U2.length∧0<V1.length)) (fun Rk hRk=>?_) ?_
   ·refine ax (fun h=>hRk _ _ ⟨rfl,?_⟩) fun h=>hRk _ _ ⟨rfl,⟨fun h=>(by cases h),fun h=>(by omega)⟩⟩
    rw[decide_eq_true_iff];constructor
    ·intro h;constructor<;>omega
    ·rintro⟨h1,h2⟩;omega
   ·rintro t h3 ⟨rfl,ht⟩
    cases t with
    |true=>
     obtain⟨p1,p2⟩:=ht.1 rfl;rw[f1]at ho2;refine au.2 (NN ho2 hn p1 p2 (by rw[ac];omega) (by rw[ac];omega) (by rw[ac];omega) fun h4 o4 k4=>hRj _ _ ⟨?_,hu2.trans k4 fun b hb=>.inl hb⟩)
     rw[f2]at o4;exact o4
    |false=>
     have hz:U2= []∨V1= []:=by
      rcases cx U2.length with h|h
      ·exact .inl (av.1 h)
      ·rcases cx V1.length with h3|h3
       ·exact .inr (av.1 h3)
       ·have:=ht.2 ⟨h,h3⟩;cases this
     refine ak.2 (hRj _ _ ⟨?_,hu2⟩);rw[f1]at ho2;rw[←f2];rcases hz with rfl|rfl
     ·exact ho2
     ·exact ho2
  rintro _ h3 ⟨o3,k3⟩;refine Join.intro (fun _ h4=>∃R1,OwnS (rK z0) 3 aQ M h4 s (A++(R1++(U2++(V2++B))))∧St lt (U1++V1) R1∧Upd M h' h4) (fun Rj hRj=>?_) ?_
  ·refine Join.intro (fun t h4=>h4=h3∧(t=true↔0<U1.length∧0<V1.length)) (fun Rk hRk=>?_) ?_
   ·refine ax (fun h=>hRk _ _ ⟨rfl,?_⟩) fun h=>hRk _ _ ⟨rfl,⟨fun h=>(by cases h),fun h=>(by omega)⟩⟩
    rw[decide_eq_true_iff];constructor
    ·intro h;constructor<;>omega
    ·rintro⟨h1,h2⟩;omega
   ·rintro t h4 ⟨rfl,ht⟩
    cases t with
    |true=>
     obtain⟨p1,p2⟩:=ht.1 rfl;refine au.2 (ih (by omega) o3 (hc.step k3 hi) p1 p2 sA1 sB1 ha (by omega) (by omega) fun h5 R1 o5 s5 k5=>hRj _ _ ⟨R1,o5,s5,k3.trans k5 fun b hb=>.inl hb⟩)
    |false=>
     refine ak.2 (hRj _ _ ⟨U1++V1,by simpa using o3,⟨Eqf.rfl _,?_⟩,k3⟩)
     rcases cx U1.length with h|h
     ·rw[av.1 h];exact sB1
     ·rcases cx V1.length with h5|h5
      ·rw[av.1 h5,aG];exact sA1
      ·have:=ht.2 ⟨h,h5⟩;cases this
  rintro _ h4 ⟨R1,o4,s1,k4⟩;have hR1:=s1.eqf.len;rw[ac]at hR1;have fin:∀{h5:af} {R2:List (Pr)},OwnS (rK z0) 3 aQ M h5 s (A++(R1++(R2++B)))→St lt (U2++V2) R2→Upd M h' h5→K () h5:=fun{h5 R2} o5 s2 k5=>by
   refine hk h5 (R1++R2) ?_ (Ii w sU sV c1 c2 s1 s2) k5;rw[ao];exact o5
  refine Join.intro (fun t h5=>h5=h4∧(t=true↔0<U2.length∧0<V2.length)) (fun Rk hRk=>?_) ?_
  ·refine ax (fun h=>hRk _ _ ⟨rfl,?_⟩) fun h=>hRk _ _ ⟨rfl,⟨fun h=>(by cases h),fun h=>(by omega)⟩⟩
   rw[decide_eq_true_iff];constructor
   ·intro h;constructor<;>omega
   ·rintro⟨h1,h2⟩;omega
  ·rintro t h5 ⟨rfl,ht⟩
   have f1:A++(R1++(U2++(V2++B)))=(A++R1)++(U2++(V2++B)):=by simp
   cases t with
   |true=>
    obtain⟨p1,p2⟩:=ht.1 rfl;rw[f1]at o4;refine au.2 (ih (by omega) o4 (hc.step k4 hi) p1 p2 sA2 sB2 (by rw[ac];omega) (by rw[ac];omega) (by rw[ac];omega) fun h6 R2 o6 s6 k6=>fin (R2:=R2) ?_ s6 (k4.trans k6 fun b hb=>.inl hb))
    rw[ao]at o6;exact o6
   |false=>
    refine ak.2 (fin (R2:=U2++V2) (by simpa using o4) ⟨Eqf.rfl _,?_⟩ k4);rcases cx U2.length with h|h
    ·rw[av.1 h];exact sB2
    ·rcases cx V2.length with h6|h6
     ·rw[av.1 h6,aG];exact sA2
     ·have:=ht.2 ⟨h,h6⟩;cases this
theorem NA{lt:Pr→Pr→Bool}(w:WO lt){M:Nat→Prop}{Iv:af→Prop}{cmp:Value}(hc:Cmp lt (rK z0) M Iv cmp){h:af}{s:SliceV}{xs:List (Pr)}(ho:OwnS (rK z0) 3 aQ M h s xs)(hi:Iv h)(hn:xs.length≤100000000){K:Unit→af→Prop}
  (hk:∀h' R,OwnS (rK z0) 3 aQ M h' s R→St lt xs R→Upd M h h'→K () h'):HC PG dd [.slice s.a s.len s.cap,cmp] [] K h:=by
 refine jn s cmp ?_;unfold eS;refine oG s (s.len:Int) cmp ?_;unfold ji;have hlen:=ho.len;have hns:s.len≤1000000000:=by omega
 refine LoopP.ghost (fun(g:List (Pr)×List (Pr)×List (Pr)) (t:Int×Int) h'=>t.1=(g.2.1.length:Int)∧t.2=((g.2.1.length+20:Nat):Int)∧xs=g.1++g.2.2∧Eqf lt g.1 g.2.1∧Full lt 20 g.2.1∧OwnS (rK z0) 3 aQ M h' s (g.2.1++g.2.2)∧Upd M h h') (fun g=>g.2.2.length) ([],[],xs)
  ⟨rfl,rfl,rfl,Eqf.rfl _,Full.nil,ho,Upd.refl _ _⟩ ?_
 rintro I ⟨X,D,T⟩ ⟨ta,tb⟩ h1 ⟨e1,e2,e3,hq,hf,o1,k1⟩ hI;simp only at e1 e2 e3 hq hf o1;subst e1 e2 e3;have hXD:=hq.len;simp only[ac]at hlen hn;refine ax (fun hle=>?_) fun hgt=>?_
 ·obtain⟨S,T',rfl,hS⟩:∃S T',T=S++T'∧S.length=20:=⟨T.take 20,T.drop 20,(aE ..).symm,by rw[aI];omega⟩
  refine D8 w hc o1 (hc.step k1 hi) hns rfl (b:=D.length+20) (by omega) fun h2 R o2 s2 k2=>?_
  have hR:=s2.eqf.len;simp only[ac]at hlen hn;have ew:IntKind.wrap .i64 (((D.length+20:Nat):Int)+20)=(((D++R).length+20:Nat):Int):=by rw[ac,cS (by omega)];omega
  rw[ew];refine hI (X++S,D++R,T') _ _ ⟨by simp only[ac];omega,rfl,by simp,hq.app s2.eqf,hf.app (by omega) s2.srt,by rw[ao];exact o2,k1.trans k2 fun b hb=>.inl hb⟩ (by simp only[ac];omega)
 have f1:D++T=D++(T++ []):=by simp
 rw[f1]at o1;refine D8 w hc o1 (hc.step k1 hi) hns rfl (b:=s.len) (by omega) fun h2 R o2 s2 k2=>?_
 have hR:=s2.eqf.len;rw[aG]at o2;have hq0:Eqf lt (X++T) (D++R):=hq.app s2.eqf;have hr0:Runs lt 20 (D++R):=hf R (.last R (by omega) s2.srt);have k2:Upd M h h2:=k1.trans k2 fun b hb=>.inl hb
 generalize D++R=ys at o2 hq0 hr0;generalize X++T=zs at hq0 hk;have hly:s.len=ys.length:=o2.len;clear hI hq hf o1 f1 hgt hR;refine LoopP.ghost (fun(g:Nat×List (Pr)) (t:Int) h'=>t=(g.1:Int)∧0<g.1∧g.1≤200000000∧Runs lt g.1 g.2∧Eqf lt zs g.2∧OwnS (rK z0) 3 aQ M h' s g.2∧Upd M h h') (fun g=>s.len-g.1) (20,ys)
  ⟨rfl,by simp,by simp,hr0,hq0,o2,k2⟩ ?_
 rintro I2 ⟨bs,ys⟩ t h3 ⟨e1,hb0,hb1,hr,hqz,o3,k3⟩ hI2;simp only at e1 hb0 hb1 hr hqz o3;subst e1;have hly:s.len=ys.length:=o3.len;refine ax (fun hlt=>?_) fun hge=>?_
 ·have hlt:bs<s.len:=by omega
  have e0:IntKind.wrap .i64 (2*(bs:Int))=((2*bs:Nat):Int):=by rw[cS (by omega)];omega
  rw[e0];refine LoopP.ghost (fun(g:List (Pr)×List (Pr)×List (Pr)) (t:Int×Int) h'=>t.1=(g.2.1.length:Int)∧t.2=((g.2.1.length+2*bs:Nat):Int)∧ys=g.1++g.2.2∧Eqf lt g.1 g.2.1∧Full lt (2*bs) g.2.1∧Runs lt bs g.2.2∧OwnS (rK z0) 3 aQ M h' s (g.2.1++g.2.2)∧Upd M h h') (fun g=>g.2.2.length) ([],[],ys)
   ⟨rfl,by simp,rfl,Eqf.rfl _,Full.nil,hr,o3,k3⟩ ?_
  rintro I3 ⟨Y,D,T⟩ ⟨ta,tb⟩ h4 ⟨e1,e2,e3,hq,hf,hrT,o4,k4⟩ hI3;simp only at e1 e2 e3 hq hf hrT o4;subst e1 e2 e3;have hYD:=hq.len;simp only[ac]at hly;have ea:IntKind.wrap .i64 ((D.length:Int)+(bs:Int))=((D.length+bs:Nat):Int):=by rw[cS (by omega)];omega
  simp only;rw[ea];refine ax (fun hle=>?_) fun hgt=>?_
  ·obtain⟨B1,T1,rfl,hB1,sB1,hr1⟩:=hrT.split (by omega)
   simp only[ac]at hly;obtain⟨B2,T2,rfl,hB2,sB2,hr2⟩:=hr1.split (by omega);simp only[ac]at hly;refine AG w hc hns (B1.length+B2.length) (aq _) o4 (hc.step k4 hi) (by omega) (by omega) sB1 sB2 rfl (by omega) (by omega) fun h5 R o5 s5 k5=>?_
   have hR:=s5.eqf.len;rw[ac]at hR;have ew:IntKind.wrap .i64 (((D.length+2*bs:Nat):Int)+((2*bs:Nat):Int))=(((D++R).length+2*bs:Nat):Int):=by rw[ac,cS (by omega)];omega
   rw[ew];refine hI3 (Y++(B1++B2),D++R,T2) _ _ ⟨by simp only[ac];omega,rfl,by simp,hq.app s5.eqf,hf.app (by omega) s5.srt,hr2,by rw[ao];exact o5,k4.trans k5 fun b hb=>.inl hb⟩ (by simp only[ac];omega)
  ·refine Join.intro (fun _ h5=>∃R,Eqf lt T R∧Runs lt (2*bs) R∧OwnS (rK z0) 3 aQ M h5 s (D++R)∧Upd M h h5) (fun Rj hRj=>?_) ?_
   ·refine ax (fun hmn=>?_) fun hmn=>?_
    ·obtain⟨B1,T1,rfl,hB1,sB1,hr1⟩:=hrT.split (by omega)
     simp only[ac]at hly;have f1:D++(B1++T1)=D++(B1++(T1++ [])):=by simp
     rw[f1]at o4;refine AG w hc hns (B1.length+T1.length) (aq _) o4 (hc.step k4 hi) (by omega) (by omega) sB1 (hr1.short (by omega)) rfl (by omega) (by omega) fun h5 R o5 s5 k5=>?_
     have hR:=s5.eqf.len;rw[ac]at hR;rw[aG]at o5;exact hRj _ _ ⟨R,s5.eqf,.last R (by omega) s5.srt,o5,k4.trans k5 fun b hb=>.inl hb⟩
    ·exact hRj _ _ ⟨T,Eqf.rfl _,.last T (by omega) (hrT.short (by omega)),o4,k4⟩
   ·rintro _ h5 ⟨R,q5,r5,o5,k5⟩
    have ew:IntKind.wrap .i64 ((bs:Int)*2)=((2*bs:Nat):Int):=by rw[cS (by omega)];omega
    rw[ew];exact hI2 (2*bs,D++R) _ _ ⟨rfl,by simp only;omega,by simp only;omega,hf R r5,hqz.tr (hq.app q5),o5,k5⟩ (by simp only;omega)
 ·exact hk h3 ys o3 ⟨hqz,hr.short (by omega)⟩ k3
end Go.Proofs
namespace Go.Proofs
open Go Go.Lift
theorem He{h:af}{b:Nat}{c:Array Value}{t:TypeId}(hb:h[b]? =some (.cells c t (0,0))):aL h ⟨b,0,none⟩=c[0]?:=bf hb
theorem Rb{z:Hs}{W:Nat→Prop}{h:af}{s:SliceV}{xs:List Pr}(h1:Sl (rK z) 3 W h s xs)(hn:xs.length*40≤140737488355328){K:SliceV→af→Prop}
  (hk:∀s' h',OwnS (rK z) 3 aQ (fun b=>h.size≤b) h' s' xs→Upd No h h'→K s' h'):HC PG ey [.slice s.a s.len s.cap] [.c .slice] K h:=by
 refine lB s ?_;unfold gq;refine CondP.intro (fun he=>?_) (fun hne=>?_)
 ·have he:s.a=none:=by simpa using he
  have hx:xs= []:=by
   by_cases hx:xs= []
   ·exact hx
   ·obtain⟨a,ha,_⟩:=h1.row hx
    rw[he]at ha;cases ha
  subst hx;exact hk _ _ (OwnS.nil (Kb z)) (Upd.refl _ _)
 ·have h2:=h1.upd (Upd.hnew No h [] aQ) (fun _ h=>h.elim)
  refine⟨_,h2.srow,?_⟩;refine AppP.own (f:=rK z) (M:=fun b=>h.size≤b) (xs:= []) (ys:=xs) ⟨rfl,Kb z,aq _,.inl rfl⟩ h1.len rfl (PW z xs) rfl (by omega) (by simpa using hn) (by rw[hH];omega) fun s' h' ho hu=>?_
  exact hk _ _ ho ((Upd.hnew No h [] aQ).trans hu fun b hb=>.inr hb)
theorem QU{z:Hs}{W:Nat→Prop}{h:af}{s:SliceV}{xs:List Pr}(hs:Sl (rK z) 3 W h s xs)(hn:xs.length≤1000000000){g:Pr→Bool}{V:Value}(hg:∀p∈xs,∀{h':af} {K:Bool→af→Prop},Upd No h h'→(∀h'',Upd No h' h''→K (g p) h'')→HV PG V [.agg (rK z p).toArray] [.c .bool] K h'){K:Int→af→Prop}
  (hk:∀h' A B e,xs=A++B→(∀a∈A,g a=false)→(B= []→e= -1)→(∀b B',B=b::B'→e=(A.length:Int)∧g b=true)→Upd No h h'→K e h'):HC PG cM [.slice s.a s.len s.cap,V] [.c (.int .i64)] K h:=by
 refine j9 s V ?_;unfold fQ ae bS;have hlen:=hs.len;refine LoopP.ghost (fun(g':List Pr×List Pr) (t:Int) h'=>t=(g'.1.length:Int)∧xs=g'.1++g'.2∧(∀a∈g'.1,g a=false)∧Upd No h h') (fun g=>g.2.length) ([],xs) ⟨rfl,rfl,fun a ha=>(by cases ha),Upd.refl _ _⟩ ?_
 rintro I ⟨A,B⟩ t h' ⟨e1,e2,hA,hu⟩ hI;simp only at e1 e2 hA;subst e1 e2;simp only[ac]at hlen hn;refine ax (fun hlt=>?_) fun hge=>?_
 ·rcases B with _|⟨p,B⟩
  ·simp only[aB]at hlen;omega
  ·obtain⟨a,ha,_,hv⟩:=(hs.upd hu fun _ h=>h.elim).at (i:=A.length) (x:=p) (by rw[aH (aq _),dk];rfl)
   refine⟨⟨by omega,by omega⟩,a,ha,p.1,hv 0 _ rfl,p.2,hv 1 _ rfl,d9 z p.1,hv 2 _ rfl,?_⟩
   refine hg p (by simp) hu fun h2 k2=>?_
   cases hgp:g p with
   |true=>exact au.2 (hk h2 A (p::B) _ rfl hA (fun h=>by cases h) (fun b B' e=>by cases e;exact⟨rfl,hgp⟩) (hu.tr k2))
   |false=>
    refine ak.2 ?_;have ew:IntKind.wrap .i64 ((A.length:Int)+1)=((A++ [p]).length:Int):=by simp only[aj]at hn;rw[ac,aJ,cS (by omega)];omega
    rw[ew];refine hI (A++ [p],B) _ _ ⟨rfl,by simp,fun a ha=>?_,hu.tr k2⟩ (by simp)
    rcases bd.1 ha with ha|ha
    ·exact hA a ha
    ·rw[aC.1 ha];exact hgp
 ·have hB:B= []:=av.1 (by omega)
  subst hB;exact hk h' A [] _ rfl hA (fun _=>rfl) (fun b B' e=>by cases e) hu
theorem QT{W:Nat→Prop}{h:af}{s:SliceV}{xs:List Pr}(hs:Sl eh 2 W h s xs)(hn:xs.length≤1000000000){g:Pr→Bool}{V:Value}(hg:∀p∈xs,∀{h':af} {K:Bool→af→Prop},Upd No h h'→(∀h'',Upd No h' h''→K (g p) h'')→HV PG V [.agg (eh p).toArray] [.c .bool] K h'){K:Int→af→Prop}
  (hk:∀h' A B e,xs=A++B→(∀a∈A,g a=false)→(B= []→e= -1)→(∀b B',B=b::B'→e=(A.length:Int)∧g b=true)→Upd No h h'→K e h'):HC PG eM [.slice s.a s.len s.cap,V] [.c (.int .i64)] K h:=by
 refine ma s V ?_;unfold g6 ae bS;have hlen:=hs.len;refine LoopP.ghost (fun(g':List Pr×List Pr) (t:Int) h'=>t=(g'.1.length:Int)∧xs=g'.1++g'.2∧(∀a∈g'.1,g a=false)∧Upd No h h') (fun g=>g.2.length) ([],xs) ⟨rfl,rfl,fun a ha=>(by cases ha),Upd.refl _ _⟩ ?_
 rintro I ⟨A,B⟩ t h' ⟨e1,e2,hA,hu⟩ hI;simp only at e1 e2 hA;subst e1 e2;simp only[ac]at hlen hn;refine ax (fun hlt=>?_) fun hge=>?_
 ·rcases B with _|⟨p,B⟩
  ·simp only[aB]at hlen;omega
  ·obtain⟨a,ha,_,hv⟩:=(hs.upd hu fun _ h=>h.elim).at (i:=A.length) (x:=p) (by rw[aH (aq _),dk];rfl)
   refine⟨⟨by omega,by omega⟩,a,ha,p.1,hv 0 _ rfl,p.2,hv 1 _ rfl,?_⟩
   refine hg p (by simp) hu fun h2 k2=>?_
   cases hgp:g p with
   |true=>exact au.2 (hk h2 A (p::B) _ rfl hA (fun h=>by cases h) (fun b B' e=>by cases e;exact⟨rfl,hgp⟩) (hu.tr k2))
   |false=>
    refine ak.2 ?_;have ew:IntKind.wrap .i64 ((A.length:Int)+1)=((A++ [p]).length:Int):=by simp only[aj]at hn;rw[ac,aJ,cS (by omega)];omega
    rw[ew];refine hI (A++ [p],B) _ _ ⟨rfl,by simp,fun a ha=>?_,hu.tr k2⟩ (by simp)
    rcases bd.1 ha with ha|ha
    ·exact hA a ha
    ·rw[aC.1 ha];exact hgp
 ·have hB:B= []:=av.1 (by omega)
  subst hB;exact hk h' A [] _ rfl hA (fun _=>rfl) (fun b B' e=>by cases e) hu
abbrev atV(bl:Nat):Value:=.func (.func sW) #[] #[.pointer (some ⟨bl,0,none⟩)]
theorem GA{z:Hs}{lev:Nat}(hl:lev<13){h:af}{bl:Nat}{t:TypeId}(hb:h[bl]? =some (.cells #[.int .i64 (lev:Int)] t (0,0))) (p:Pr) {K:Int→af→Prop} (hk:∀h',Upd No h h'→K (ck z lev p.1:Int) h'):
  HV PG (atV bl) [.agg (rK z p).toArray] [.c (.int .i64)] K h:=by
 refine HV.mk' (GK (p.1,p.2,d9 z p.1) ⟨bl,0,none⟩ ?_);unfold yf ae;refine bm fun h1 b1 k1=>?_
 exact⟨_,vc b1 2,_,He (k1.get0 hb),Rc hl (hk h1 k1)⟩
theorem Mb{a:Int}{h:af}{K:Bool→af→Prop}(hk:K false h):HC PG oV [.int .i64 a] [.c .bool] K h:=by
 refine EQ a ?_;unfold xf;rw[bne_self_eq_false];exact hk
theorem Q8{a b:Int}{h:af}{K:Int→af→Prop}(hk:∀e,decide (e<0)=decide (a<b)→K e h):HC PG pZ [.int .i64 a,.int .i64 b] [.c (.int .i64)] K h:=by
 refine BH a b ?_;unfold uB;refine Mb (Mb (ak.2 (ak.2 ?_)));refine ax (fun h1=>hk _ ?_) fun h1=>ax (fun h2=>hk _ ?_) fun h2=>hk _ ?_
 ·rw[decide_eq_true h1];rfl
 ·rw[decide_eq_false h1];rfl
 ·rw[decide_eq_false h1];rfl
def Vi(z:Hs)(lev:Nat)(a b:Pr):Bool:=decide (ck z lev a.1<ck z lev b.1)
theorem Vh(z:Hs)(lev:Nat):WO (Vi z lev):=by
 refine⟨fun a=>decide_eq_false (by omega),fun a b h=>decide_eq_false ?_,fun a b c h k=>decide_eq_false ?_⟩
 ·have:=of_decide_eq_true h;omega
 ·have:=of_decide_eq_false h;have:=of_decide_eq_false k;omega
theorem Uy(z:Hs)(lev:Nat)(x a:Pr):Jh (Vi z lev) x a=decide (ck z lev a.1=ck z lev x.1):=by
 unfold Jh Vi;by_cases e:ck z lev a.1=ck z lev x.1
 ·rw[decide_eq_true e,e];simp
 ·rw[decide_eq_false e]
  rcases Nat.lt_or_gt_of_ne e with h|h
  ·rw[decide_eq_true h];rfl
  ·rw[decide_eq_true (p:=ck z lev x.1<ck z lev a.1) h];simp
def Two(bl ba:Nat)(lev:Nat)(h:af):Prop:=h[bl]? =some (.cells #[.int .i64 (lev:Int)] ri (0,0))∧h[ba]? =some (.cells #[atV bl] pz (0,0))
theorem Two.upd{bl ba lev:Nat}{h h':af}(t:Two bl ba lev h)(k:Upd No h h'):Two bl ba lev h':=⟨k.get0 t.1,k.get0 t.2⟩
theorem Wj{z:Hs}{lev:Nat}(hl:lev<13){bl ba:Nat}{M:Nat→Prop}(h1:¬M bl)(h2:¬M ba):Cmp (Vi z lev) (rK z) M (Two bl ba lev) (.func (.func sS) #[] #[.pointer (some ⟨ba,0,none⟩)]):=by
 refine⟨fun a b h K t hk=>HV.mk' (GJ (a.1,a.2,d9 z a.1) (b.1,b.2,d9 z b.1) ⟨ba,0,none⟩ ?_),fun k t=>⟨k.get t.1 h1,k.get t.2 h2⟩⟩
 unfold ye ae;refine bm fun h1 b1 k1=>bm fun h2 b2 k2=>?_
 have k02:=k1.tr k2;have t2:=t.upd k02;have c1:=k2.get0 b1;refine⟨_,He t2.2,_,vc c1 0,_,vc c1 1,_,vc c1 2,_,He t2.2,_,vc b2 0,_,vc b2 1,_,vc b2 2,?_⟩;refine GA (z:=z) hl t2.1 a fun h3 k3=>?_
 have t3:=t2.upd k3;have b3:=k3.get0 b2;refine⟨⟨vc b3 0,vc b3 1,vc b3 2⟩,He t3.2,?_⟩;refine GA (z:=z) hl t3.1 b fun h4 k4=>?_
 refine Q8 fun e he=>hk h4 e ((k02.tr k3).tr k4) ?_
 rw[he];unfold Vi;exact decide_eq_decide.2 (by omega)
end Go.Proofs
namespace Go.Proofs
open Go Go.Lift
theorem Fi{h:af}{b:Nat}{c:Array Value}{t:TypeId}{v:Value}{k:af→Prop}(hb:h[b]? =some (.cells c t (0,0))) (hs:0<c.size) (hk:∀h',h'[b]? =some (.cells (c.setIfInBounds 0 v) t (0,0))→Upd (· =b) h h'→k h'):Wr h ⟨b,0,none⟩∧At (hset h ⟨b,0,none⟩ v) k:=
 ⟨iR hb hs,xV hb hk⟩
theorem Rg{L D T:List Pr}{p:Pr}(hr:bD L)(e:L=D++p::T):Hr D p=D++ [p]:=by
 subst e;have h1:=bH.1 hr;rw[AZ p h1.1];have:=AY (p:=p) (A:=D) (B:= []) fun r hr'=>h1.2.2 r hr' p (ar ..)
 rw[aG]at this;exact this
theorem Sr{z:Hs}{lev:Nat}{D A B:List Pr}{a0:Pr}(hs:Srt (Vi z lev) (D++(A++B)))(hD:∀d∈D,∀t∈A++B,ck z lev d.1<ck z lev t.1)(ha0:a0∈A)(hA:∀a∈A,ck z lev a.1=ck z lev a0.1)(hB:∀b∈B,ck z lev b.1≠ck z lev a0.1):
  part z lev (ck z lev a0.1) (D++(A++B))=A∧part z lev (ck z lev a0.1) D= []∧(∀c,c≠ck z lev a0.1→part z lev c (D++A)=part z lev c D)∧part z lev (ck z lev a0.1) (D++A)=A∧∀d∈D++A,∀t∈B,ck z lev d.1<ck z lev t.1:=by
 have pD:part z lev (ck z lev a0.1) D= []:=vV fun d hd=>by have:=hD d hd a0 (cg _ ha0);omega
 have pA:part z lev (ck z lev a0.1) A=A:=FU hA;have pB:part z lev (ck z lev a0.1) B= []:=vV hB;have app:∀{c} (X Y:List Pr),part z lev c (X++Y)=part z lev c X++part z lev c Y:=fun X Y=>List.filter_append ..
 refine⟨by rw[app,app,pD,pA,pB];simp,pD,fun c hc=>?_,by rw[app,pD,pA];rfl,fun d hd t ht=>?_⟩
 ·have:part z lev c A= []:=vV fun a ha=>by rw[hA a ha];exact fun e=>hc e.symm
  rw[app,this,aG]
 ·rcases bd.1 hd with hd|hd
  ·exact hD d hd t (co _ ht)
  ·have h1:=of_decide_eq_false (hs.right.cross d hd t ht)
   have h2:=hB t ht;have h3:=hA d hd;omega
set_option maxHeartbeats 1000000 in
theorem TN{z:Hs}{W:Nat→Prop}:∀(m:Nat),m≤13→∀{h:af} {s:SliceV} {L:List Pr},Sl (rK z) 3 No h s L→(∀y,W y→y<h.size)→bD L→L.length≤100000→∀{K:Option Addr→af→Prop},
  (∀h' b,TrieAt W z h' m b L→Upd No h h'→K (some ⟨b,0,none⟩) h')→HC PG p4 [.slice s.a s.len s.cap,.int .i64 ((13-m:Nat):Int)] [.c .ptr] K h:=by
 intro m;induction m with
 |zero=>
  intro _ h s L hs hW hr hn K hk;have gW:∀{h'},Upd No h h'→∀y,W y→y<h'.size:=fun k y hy=>ay (hW y hy) k.size
  refine BK s ((13-0:Nat):Int) ?_;unfold wO ae bS;refine bm fun h1 b1 k1=>⟨_,He b1,au.2 ?_⟩
  refine Jj (gW k1) fun h4 b4 bk4 hu4=>?_
  have hlen:=hs.len;refine LoopP.ghost (fun(g:List Pr×List Pr) (t:Option Addr×Int) h'=>(∃b,t.1=some ⟨b,0,none⟩∧BuckAt W h' b g.1)∧t.2=(g.1.length:Int)∧L=g.1++g.2∧Upd No h h') (fun g=>g.2.length) ([],L) ⟨⟨b4,rfl,bk4⟩,rfl,rfl,k1.tr hu4⟩ ?_
  rintro I ⟨D,T⟩ ⟨tb,ti⟩ h5 ⟨⟨b,e1,bk⟩,e2,e3,hu5⟩ hI;simp only at e1 e2 e3 bk;subst e1 e2;have hl3:L.length=D.length+T.length:=by rw[e3,ac]
  refine ax (fun hlt=>?_) fun hge=>?_
  ·rcases T with _|⟨p,T⟩
   ·simp only[aB]at hl3;omega
   ·simp only[aj]at hl3
    obtain⟨a,ha,_,hv⟩:=(hs.upd hu5 fun _ h=>h.elim).at (i:=D.length) (x:=p) (by rw[e3,aH (aq _),dk];rfl)
    refine⟨⟨by omega,by omega⟩,a,ha,p.1,hv 0 _ rfl,p.2,hv 1 _ rfl,d9 z p.1,hv 2 _ rfl,?_⟩
    refine bm fun h6 b6 k6=>?_
    refine cR (c:= [.string ⟨#[]⟩,.string ⟨#[]⟩,.int .u64 0]) (vs:=rK z p) b6 rfl fun h7 b7 hu7=>?_
    have hu07:=(hu5.tr k6).own hu7 hu5.size;have k57:Upd No h5 h7:=k6.own hu7 (aq _);refine⟨p.1,Hd b7 0 0,p.2,Hd b7 0 1,?_⟩;have hrD:bD D:=by rw[e3]at hr;exact(bH.1 hr).1
    refine Fh (bk.upd k57 fun _ h=>h.elim) (gW hu07) hrD (by omega) p fun h8 b8 bk8 hu8=>?_
    rw[Rg hr e3]at bk8;have ew:IntKind.wrap .i64 ((D.length:Int)+1)=((D++ [p]).length:Int):=by rw[ac,aJ,cS (by omega)];omega
    rw[ew];exact hI (D++ [p],T) _ _ ⟨⟨b8,rfl,bk8⟩,rfl,by rw[e3];simp,hu07.tr hu8⟩ (by simp)
  ·have hT:T= []:=av.1 (by omega)
   subst hT;rw[aG]at e3;subst e3;exact hk h5 b bk hu5
 |succ m ih=>
  intro hm h s L hs hW hr hn K hk;have gW:∀{h'},Upd No h h'→∀y,W y→y<h'.size:=fun k y hy=>ay (hW y hy) k.size
  have hlev:13-(m+1)=12-m:=by omega
  have hl13:12-m<13:=by omega
  refine BK s ((13-(m+1):Nat):Int) ?_;unfold wO ae bS;rw[hlev];refine bm fun h1 b1 k1=>⟨_,He b1,?_⟩
  have ne:(((12-m:Nat):Int)==(13:Int))=false:=by rw[beq_eq_false_iff_ne];omega
  rw[ne];refine ak.2 (bm fun h2 b2 k2=>?_)
  have z1:=bF b1;have z2:=bF b2;have s1:=k1.size;refine Fi b2 nb fun h3 b3 hu3=>?_
  have c1:=hu3.oth (k2.get0 b1) (by omega);have two3:Two h.size h1.size (12-m) h3:=⟨c1,b3⟩;have k03:Upd No h h3:=(k1.tr k2).own hu3 s1;have s3:h2.size≤h3.size:=hu3.size;refine Rb (hs.upd k03 fun _ h=>h.elim) (by omega) fun e h4 ho4 hu4=>?_
  have two4:=two3.upd hu4;refine NA (Vh z (12-m)) (Wj hl13 (by omega) (by omega)) ho4 two4 (by omega) fun h5 R ho5 hst hu5=>?_
  have k45:Upd No h3 h5:=hu4.trans hu5 fun b hb=>.inr hb
  have two5:=two3.upd k45;have hRl:=hst.eqf.len;have hRp:∀c,part z (12-m) c R=part z (12-m) c L:=fun c=>by
   by_cases hex:∃q∈R++L,ck z (12-m) q.1=c
   ·obtain⟨q,_,hq⟩:=hex
    have e1:∀X:List Pr,X.filter (Jh (Vi z (12-m)) q)=part z (12-m) c X:=fun X=>List.filter_congr fun p _=>by rw[Uy,hq]
    rw[←e1,←e1];exact hst.eqf.flt q
   ·rw[vV fun p hp e=>hex ⟨p,cg _ hp,e⟩,vV fun p hp e=>hex ⟨p,co _ hp,e⟩]
  have k05:=k03.tr k45;refine pQ (gW k05) fun h6 b6 nd6 hu6=>?_
  have k06:=k05.tr hu6;have hlen:=ho5.len;have hsl:Sl (rK z) 3 No h6 e R:=(ho5.sl fun _ _ _ h=>h).upd hu6 fun _ h=>h.elim
  refine LoopP.ghost (fun(g:List Pr×List Pr) (t:SliceV×Option Addr) h'=>R=g.1++g.2∧(∀d∈g.1,∀y∈g.2,ck z (12-m) d.1<ck z (12-m) y.1)∧Sl (rK z) 3 No h' t.1 g.2∧t.1.len≤t.1.cap∧(∃b sl,t.2=some ⟨b,0,none⟩∧NodeAt W h' b sl∧∀c,c<32→SlotIs W z h' m sl c (part z (12-m) c g.1))∧Upd No h6 h') (fun g=>g.2.length) ([],R)
   ⟨rfl,fun d hd=>(by cases hd),hsl,ho5.cap,⟨b6,_,rfl,nd6,fun c _=>.inl ⟨rfl,rfl,rfl⟩⟩,Upd.refl _ _⟩ ?_
  rintro I ⟨D,T⟩ ⟨sT,tb⟩ h7 ⟨e3,hDT,hsT,hcT,⟨b,sl,e1,nd,hsl⟩,hu7⟩ hI;simp only at e1 e3 hDT hsT hcT nd hsl;subst e1;have hlT:=hsT.len;have hRT:R.length=D.length+T.length:=by rw[e3,ac]
  have k07:=k06.tr hu7;have two7:=(two5.upd hu6).upd hu7;refine ax (fun hgt=>?_) fun hle=>?_
  ·rcases T with _|⟨p,T⟩
   ·simp only[aB]at hlT;simp only at hgt;omega
   obtain⟨a,ha,_,hv⟩:=hsT.at (i:=0) (x:=p) rfl;refine⟨_,He two7.2,⟨by omega,by simp only[aj]at hlT;simp only;omega⟩,a,ha,p.1,hv 0 _ rfl,p.2,hv 1 _ rfl,d9 z p.1,hv 2 _ rfl,?_⟩
   have two8:∀{h8},Upd No h7 h8→Two h.size h1.size (12-m) h8:=fun k=>two7.upd k
   refine⟨GA (z:=z) hl13 two7.1 p fun h8 k8=>bm fun h9 b9 k9=>Fi b9 nb fun h10 b10 hu10=>?_,bm fun h8 b8 k8=>⟨?_,He (two8 k8).2,GA (z:=z) hl13 (two8 k8).1 p fun h9 k9=>Fi (k9.get0 b8) nb fun h10 b10 hu10=>?_⟩⟩
   case refine_2=>
    obtain⟨a',ha',_,hv'⟩:=(hsT.upd k8 fun _ h=>h.elim).at (i:=0) (x:=p) rfl
    rw[ha]at ha';cases ha';exact⟨hv' 0 _ rfl,hv' 1 _ rfl,hv' 2 _ rfl⟩
   case' refine_1=>
    have k710:Upd No h7 h10:=(k8.tr k9).own hu10 k8.size;obtain⟨vb,evb⟩:∃vb,vb=h8.size:=⟨_,rfl⟩;rw[cF h8,←evb];rw[←evb]at b10
   case' refine_3=>
    have k710:Upd No h7 h10:=(k8.tr k9).own hu10 (aq _);obtain⟨vb,evb⟩:∃vb,vb=h7.size:=⟨_,rfl⟩;rw[cF h7,←evb];rw[←evb]at b10
   all_goals
    have hTl:(p::T).length≤100000:=by omega
    refine QU (hsT.upd k710 fun _ h=>h.elim) (by omega) (g:=fun q=>decide (ck z (12-m) q.1≠ck z (12-m) p.1)) (fun q _ h' K' hu' hK=>?_) fun h11 A B e hAB hA hBn hBc hu11=>?_
    ·refine HV.mk' (GI (q.1,q.2,d9 z q.1) ⟨h1.size,0,none⟩ ⟨vb,0,none⟩ ?_)
     unfold yd ae;refine bm fun h12 b12 k12=>?_
     have k':=hu'.tr k12;refine⟨_,He (two8 (k710.tr k')).2,_,vc b12 0,_,vc b12 1,_,vc b12 2,_,He (k'.get0 b10),?_⟩;refine GA (z:=z) hl13 (two8 (k710.tr k')).1 q fun h13 k13=>⟨He ((k'.tr k13).get0 b10),?_⟩
     have eb:(((ck z (12-m) q.1:Nat):Int) !=((ck z (12-m) p.1:Nat):Int))=decide (ck z (12-m) q.1≠ck z (12-m) p.1):=by
      rw[Bool.eq_iff_iff,bne_iff_ne,decide_eq_true_iff];omega
     rw[eb];exact hK h13 (k12.tr k13)
    obtain⟨A',rfl⟩:∃A',A=p::A':=by
     rcases A with _|⟨a0,A'⟩
     ·have:=(hBc p T (by rw[cd]at hAB;exact hAB.symm)).2
      simp at this
     ·rw[List.cons_append]at hAB
      exact⟨A',by rw[(List.cons.inj hAB).1]⟩
    generalize hAe:p::A'=A at*;have hpA:p∈A:=by rw[←hAe];exact ar ..
    have hA1:0<A.length:=List.length_pos_of_mem hpA;have hsrt:=hst.srt;rw[hAB]at hDT hsT hTl hlT;rw[e3,hAB]at hsrt;simp only[ac]at hTl hlT;have hcA:∀q∈A,ck z (12-m) q.1=ck z (12-m) p.1:=fun q hq=>by simpa using hA q hq
    have hcB:∀q∈B,ck z (12-m) q.1≠ck z (12-m) p.1:=fun q hq=>by
     rcases B with _|⟨b0,B'⟩
     ·cases hq
     have hb0:ck z (12-m) b0.1≠ck z (12-m) p.1:=by simpa using(hBc b0 B' rfl).2
     have h1:=of_decide_eq_false (hsrt.right.cross p hpA b0 (ar ..));rcases az.1 hq with rfl|hq
     ·exact hb0
     ·have h2:=of_decide_eq_false ((List.pairwise_cons.1 hsrt.right.right).1 q hq)
      omega
    obtain⟨r1,r2,r3,r4,r5⟩:=Sr hsrt hDT hpA hcA hcB;have hi:=xU z (12-m) p.1;have hsi:=hsl _ hi;rw[r2]at hsi;obtain⟨hsp,hskn⟩:sl.p (ck z (12-m) p.1)=none∧sl.k (ck z (12-m) p.1)=none:=by
     rcases hsi with⟨_,h1,h2⟩|⟨q,h1,_⟩|⟨h1,_⟩
     ·exact⟨h1,h2⟩
     ·cases h1
     ·simp at h1
    have k611:=(hu7.tr k710).tr hu11;have k711:=k710.tr hu11;have b11:=hu11.get0 b10;have two11:=two8 k711;refine Join.intro (fun t h'=>t=(A.length:Int)∧h'=h11) (fun R1 hR1=>?_) ?_
    ·refine ax (fun hneg=>hR1 _ _ ⟨?_,rfl⟩) fun hpos=>hR1 _ _ ⟨?_,rfl⟩
     ·rcases B with _|⟨b0,B'⟩
      ·have hlT:sT.len=A.length+0:=hlT
       show((sT.len:Nat):Int)=(A.length:Int)
       omega
      ·have:=(hBc b0 B' rfl).1;omega
     ·rcases B with _|⟨b0,B'⟩
      ·have:=hBn rfl;omega
      ·exact(hBc b0 B' rfl).1
    rintro t h' ⟨rfl,rfl⟩;refine Join.intro (fun t h9=>∃b' sl',t=some ⟨b',0,none⟩∧NodeAt W h9 b' sl'∧(∀c,c<32→SlotIs W z h9 m sl' c (part z (12-m) c (D++A)))∧Upd No h' h9) (fun R1 hR1=>?_) ?_
    ·refine CondP.intro (fun hone=>?_) fun hmore=>?_
     ·have hone:A.length=1:=by have:=eq_of_beq hone;omega
      have hAp:A= [p]:=by
       rw[←hAe]at hone⊢;simp only[aj]at hone;rw[av.1 (show A'.length=0 by omega)]
      obtain⟨a',ha',_,hv'⟩:=(hsT.upd k711 fun _ h=>h.elim).at (i:=0) (x:=p) (by rw[←hAe];rfl)
      rw[ha]at ha';cases ha';refine⟨_,He b11,⟨by omega,by omega⟩,a,ha,p.1,hv' 0 _ rfl,p.2,hv' 1 _ rfl,?_⟩
      refine qB (nd.upd k711 fun _ h=>h.elim) (gW (k06.tr k611)) hi (fun _ _=>hskn) p fun h12 b12 nd12 hu12=>hR1 _ _ ⟨b12,_,rfl,nd12,fun c hc=>?_,hu12⟩
      by_cases e:c=ck z (12-m) p.1
      ·rw[e,r4,hAp]
       exact .inr (.inl ⟨p,rfl,fK,fK⟩)
      ·rw[r3 c e]
       have t:=SlotIs.upd0 (k711.tr hu12) (hsl c hc);have e1:upd sl.p (ck z (12-m) p.1) (some p) c=sl.p c:=fg e;have e2:upd sl.k (ck z (12-m) p.1) none c=sl.k c:=fg e;unfold SlotIs at t;rw[←e1,←e2]at t;exact t
     ·have hmore:A.length≠1:=fun e=>by rw[e]at hmore;simp at hmore
      refine⟨_,He b11,⟨by omega,(by show((A.length:Nat):Int)≤((sT.cap:Nat):Int);omega)⟩,_,He two11.1,?_⟩;have ew:IntKind.wrap .i64 (((12-m:Nat):Int)+1)=((13-m:Nat):Int):=by rw[cS (by omega)];omega
      rw[ew];have hsA:=Sl.sub (hsT.upd k711 fun _ h=>h.elim) (l:=0) (hi:=A.length) (m:=sT.cap) (c:=sT.cap-0) (Nat.zero_le _) (by simp) (by omega)
      rw[List.drop_zero,Nat.sub_zero,List.take_left]at hsA;have hAL:A=part z (12-m) (ck z (12-m) p.1) L:=by
       rw[←hRp,e3,hAB];exact r1.symm
      refine ih (by omega) hsA (gW (k06.tr k611)) (by rw[hAL];exact iS hr) (by omega) fun h12 kb t12 hu12=>?_
      refine⟨He (two11.upd hu12).1,He (hu12.get0 b11),?_⟩;refine u0 (nd.upd (k711.tr hu12) fun _ h=>h.elim) (gW ((k06.tr k611).tr hu12)) hi (fun _ _=>hsp) ⟨kb,0,none⟩ fun h13 b13 nd13 hu13=>⟨He ((two11.upd hu12).upd hu13).1,hR1 _ _ ⟨b13,_,rfl,nd13,fun c hc=>?_,hu12.tr hu13⟩⟩
      by_cases e:c=ck z (12-m) p.1
      ·rw[e,r4]
       exact .inr (.inr ⟨by omega,fK,kb,fK,TrieAt.upd0 hu13 t12⟩)
      ·rw[r3 c e]
       have t:=SlotIs.upd0 ((k711.tr hu12).tr hu13) (hsl c hc);have e1:upd sl.p (ck z (12-m) p.1) none c=sl.p c:=fg e;have e2:upd sl.k (ck z (12-m) p.1) (some (some ⟨kb,0,none⟩)) c=sl.k c:=fg e;unfold SlotIs at t;rw[←e1,←e2]at t;exact t
    ·rintro t h9 ⟨b',sl',rfl,nd9,hs9,hu9⟩
     refine⟨⟨by omega,(by show((A.length:Nat):Int)≤((sT.len:Nat):Int);omega)⟩,?_⟩;rw[Int.toNat_natCast];have hsB:=Sl.sub ((hsT.upd k711 fun _ h=>h.elim).upd hu9 fun _ h=>h.elim) (l:=A.length) (hi:=(A++B).length) (m:=sT.cap) (c:=sT.cap-A.length) (by simp) (aq _) (by rw[ac];omega)
     rw[List.drop_left,ac,cl,List.take_length]at hsB;have elen:sT.len-A.length=B.length:=by omega
     rw[elen];refine hI (D++A,B) _ _ ⟨by rw[e3,hAB,ao],r5,hsB,by simp only;omega,⟨b',sl',rfl,nd9,hs9⟩,k611.tr hu9⟩ ?_
     simp only[hAB,ac];omega
  ·have hT:T= []:=by
    refine av.1 ?_;simp only at hle;omega
   subst hT;rw[aG]at e3;subst e3;exact hk h7 b ⟨sl,nd,fun c hc=>by
    have:=hsl c hc
    rw[hRp c]at this
    exact this⟩ k07
end Go.Proofs
namespace Go.Proofs
open Go Go.Lift
theorem Tp{z:Hs}{M:Nat→Prop}{h:af}{so:SliceV}{out:List Pr}{p:Pr}{K:SliceV→af→Prop}(ho:OwnS (rK z) 3 aQ M h so out)(hM:∀b,h.size≤b→M b)(hn:out.length+1≤1000000000)
  (hk:∀s' h',OwnS (rK z) 3 aQ M h' s' (out++ [p])→Upd M h h'→K s' h'):
  ∃xs,SRow (hnew h (rK z p) aQ) (some (ag h)) (1*3) xs∧AppP (some [.string (⟨#[]⟩:ByteArray),.string (⟨#[]⟩:ByteArray),.int .u64 0]) 3 40 aQ so.a so.len so.cap 1 xs (hnew h (rK z p) aQ) K:=by
 have k:=Upd.hnew No h (rK z p) aQ;have h1:OwnS (rK z) 3 aQ (fun _=>True) (hnew h (rK z p) aQ) ⟨some (ag h),1,1⟩ [p]:=⟨rfl,Kb z,aq _,.inr ⟨h.size,[],rfl,trivial,bR ..,rfl⟩⟩
 refine⟨_,(h1.sl (W:=No) fun _ _ _ h=>h).srow,?_⟩
 refine AppP.own (ys:= [p]) (ho.upd k fun _ _ h=>h) rfl rfl rfl rfl (by omega) (by simp only[aJ];omega) (hM _ (by rw[hH];omega)) fun s' h' ho' hu=>?_
 exact hk s' h' ho' ((Upd.hnew M h _ _).tr hu)
theorem PH(l:List Pr):(vR l).length≤l.length:=by
 have:∀(l acc:List Pr),(l.foldl (fun acc p=>gU p acc) acc).length≤acc.length+l.length:=by
  intro l;induction l with
  |nil=>intro acc;simp
  |cons p l ih=>
   intro acc;rw[List.foldl_cons];have h1:=ih (gU p acc);have h2:=yx p (l:=acc);simp only[aj];omega
 have:=this l [];unfold vR;simpa using this
theorem Rd{z:Hs}{W W0:Nat→Prop}{h:af}{s:SliceV}{l:List Pr}(hs:Sl eh 2 W0 h s l)(hW:∀y,W y→y<h.size)(hn:l.length≤100000){K:Option Addr→af→Prop}
  (hk:∀h' b,TrieAt W z h' 13 b (vR l)→Upd No h h'→K (some ⟨b,0,none⟩) h'):HC PG uQ [.agg #[.int .u64 z.k0,.int .u64 z.k1,.int .u64 z.mask],.slice s.a s.len s.cap] [.c .ptr] K h:=by
 refine HP (z.k0,z.k1,z.mask) s ?_;unfold zq ae bS;refine bm fun h1 b1 k1=>?_
 refine Cu (W':=No) (hs.upd k1 fun _ h=>h.elim) (fun _ h=>h.elim) (by omega) fun e h3 hse _ k3=>?_
 have c3:=k3.get0 b1;have k03:=k1.tr k3;have hln:=PH l;have hrs:=ym l;generalize vR l=L at*;have hlen:=hse.len;refine LoopP.ghost (fun(g:List Pr×List Pr) (t:SliceV×Int) h'=>t.2=(g.1.length:Int)∧L=g.1++g.2∧OwnS (rK z) 3 aQ (fun b=>h3.size≤b) h' t.1 g.1∧Upd No h3 h') (fun g=>g.2.length) ([],L) ⟨rfl,rfl,OwnS.nil (Kb z),Upd.refl _ _⟩ ?_
 rintro I ⟨D,T⟩ ⟨sa,ti⟩ h6 ⟨e2,e3,ho,hu⟩ hI;simp only at e2 e3 ho;subst e2 e3;simp only[ac]at hlen hln;have hlD:=ho.len;refine ax (fun hlt=>?_) fun hge=>?_
 ·rcases T with _|⟨p,T⟩
  ·simp only[aB]at hlen;simp only at hlt;omega
  simp only[aj]at hlen hln;refine Join.intro (fun t h'=>OwnS (rK z) 3 aQ (fun b=>h3.size≤b) h' t (D++ [p])∧Upd No h3 h') (fun R hR=>?_) ?_
  ·obtain⟨a,ha,_,hv⟩:=(hse.upd hu fun _ h=>h.elim).at (i:=D.length) (x:=p) (by rw[aH (aq _),dk];rfl)
   refine⟨⟨by omega,by simp only;omega⟩,a,ha,p.1,hv 0 _ rfl,p.2,hv 1 _ rfl,?_⟩
   refine JX (p:=p) fun h8 b8 k8=>?_
   have c8:=(hu.tr k8).get0 c3;refine⟨p.1,vc b8 0,p.2,vc b8 1,_,vc c8 0,_,vc c8 1,_,vc c8 2,p.1,vc b8 0,?_⟩;refine yy fun h9 k9=>?_
   have b9:=k9.get0 b8;refine⟨⟨vc b9 0,vc b9 1⟩,bi ?_⟩;have hu9:=(hu.tr k8).tr k9;have z9:=hu9.size;refine Tp (z:=z) (p:=p) (((ho.upd k8 fun _ _ h=>h).upd k9 fun _ _ h=>h)) (fun b hb=>by omega) (by omega) fun s' h' ho' hu'=>hR _ _ ⟨ho',hu9.trans hu' fun b hb=>.inr hb⟩
  ·rintro s' h' ⟨ho',hu'⟩
   have ew:IntKind.wrap .i64 ((D.length:Int)+1)=((D++ [p]).length:Int):=by rw[ac,aJ,cS (by omega)];omega
   rw[ew];exact hI (D++ [p],T) _ _ ⟨rfl,by simp,ho',hu'⟩ (by simp)
 ·have hT:T= []:=av.1 (by simp only at hge;omega)
  subst hT;rw[aG]at hrs;rw[aG]at hk;have k06:=k03.tr hu;exact TN 13 (aq _) (ho.sl fun _ _ _ h=>h) (fun y hy=>ay (hW y hy) k06.size) hrs (by simp only[aB]at hln;omega) fun h' b t hu'=>hk h' b t (k06.tr hu')
end Go.Proofs
