/- A part of the proof that the named laws of this program answer true, whatever the input. -/
import Derived.Test.YtcpiahjlddmfiaaGreatPart4
open List renaming length_append→ad,length_nil→aS,length_cons→ao,length_eq_zero_iff→aE,append_nil→aX,nil_append→dV,take_append_drop→bc,length_take→aP,length_drop→aM,append_assoc→ax,mem_append→aN,mem_singleton→av,mem_cons→aq,length_singleton→bd,getElem?_eq_some_iff→bf,getElem?_eq_getElem→aj,getElem_of_mem→bA,getElem?_append_left→bN,getElem?_append_right→aU,mem_filter→ci,mem_cons_of_mem→az,mem_cons_self→au,pairwise_cons→aB,mem_range→fS,flatMap_cons→aK,flatMap_append→bL,length_map→cL
open List.Pairwise renaming nil→db
open Nat renaming eq_zero_or_pos→gI,le_refl→al,add_sub_cancel_left→eu,sub_self→iz,zero_le→bS
namespace Go.Proofs
open Go Go.Lift
theorem uC{M:Nat→Prop}{h:ac}{s:SliceV}{A U C V B:List (Pr)}(G:OwnS eJ 2 ag M h s (A++(U++(C++(V++B)))))(hn:s.len≤1000000000)(f:U.length=V.length){a b:Nat}(e:a=A.length)(q:b=A.length+U.length+C.length){n:Nat}(x:n=U.length){k:Value}{K:Unit→ac→Prop}
  (R:∀h',OwnS eJ 2 ag M h' s (A++(V++(C++(U++B))))→Upd M h h'→K () h'):HC PG cS [.slice s.a s.len s.cap,.int .i64 a,.int .i64 b,.int .i64 n,k] [] K h:=by
 subst e q x;refine nU s A.length (A.length+U.length+C.length:Nat) U.length k ?_;unfold iJ aZ cp m8 gQ;have d:=G.len;simp only[ad]at d;refine LoopP.ghost (fun(g:(List (Pr)×List (Pr))×List (Pr)×List (Pr)) (t:Int) h'=>t=(g.1.1.length:Int)∧U=g.1.1++g.1.2∧V=g.2.1++g.2.2∧g.1.1.length=g.2.1.length∧OwnS eJ 2 ag M h' s (A++(g.2.1++(g.1.2++(C++(g.1.1++(g.2.2++B))))))∧Upd M h h') (fun g=>g.1.2.length) (([],U),[],V)
  ⟨rfl,rfl,rfl,rfl,G,Upd.refl _ _⟩ ?_
 rintro I ⟨⟨U1,U2⟩,V1,V2⟩ t h' ⟨L,E,Q,P,c,N⟩ S;simp only at L E Q P c;subst L E Q;simp only[ad]at f d;refine aD (fun p=>?_) fun D=>?_
 ·simp only[ad]at p
  match U2,V2 with
  | [],_=>simp only[aS]at p;omega
  |_::_,[]=>simp only[aS,ao]at f;omega
  |u::U2,v::V2=>
   simp only[ao]at f d;simp only[ad,ao];have y:IntKind.wrap .i64 (((A.length+(U1.length+(U2.length+1))+C.length:Nat):Int)+(U1.length:Int))=((A.length+(U1.length+(U2.length+1))+C.length+U1.length:Nat):Int):=by rw[d8 (by omega)];omega
   have z:IntKind.wrap .i64 ((A.length:Int)+(U1.length:Int))=((A.length+U1.length:Nat):Int):=by rw[d8 (by omega)];omega
   rw[y,z];have f1:A++(V1++((u::U2)++(C++(U1++((v::V2)++B)))))=(A++V1)++u::(U2++(C++(U1++(v::V2++B)))):=by simp
   have Z:(A++V1)++u::(U2++(C++(U1++(v::V2++B))))=((A++V1)++u::(U2++(C++U1)))++v::(V2++B):=by simp
   have X:(A++V1)++v::(U2++(C++(U1++(v::V2++B))))=((A++V1)++v::(U2++(C++U1)))++v::(V2++B):=by simp
   have W:((A++V1)++v::(U2++(C++U1)))++u::(V2++B)=A++((V1++ [v])++(U2++(C++((U1++ [u])++(V2++B))))):=by simp
   rw[f1]at c;obtain⟨a,e,o⟩:=lI c (i:=A.length+U1.length) (by rw[ad];omega);have j:=c;rw[Z]at j;obtain⟨a',w,m⟩:=lI j (i:=A.length+(U1.length+(U2.length+1))+C.length+U1.length) (by simp only[ad,ao];omega);rw[e]at w;cases w;refine⟨⟨by omega,by omega⟩,a,e,v.1,m 0 _ rfl,v.2,m 1 _ rfl,⟨by omega,by omega⟩,a,e,u.1,o 0 _ rfl,u.2,o 1 _ rfl,⟨by omega,by omega⟩,a,e,?_⟩
   refine uD c v e (by rw[ad];omega) fun O J T=>⟨⟨by omega,by omega⟩,a,e,?_⟩
   rw[X]at J;refine uD J u e (by first|omega|(simp;done)|(simp;omega)) fun h3 H Y=>?_
   rw[W]at H;rw[vJ (n:=U1.length+(U2.length+1)) (by omega) (by omega)];exact S ((U1++ [u],U2),V1++ [v],V2) _ _ ⟨by simp,by simp,by simp,by simp[P],H,(N.trans T fun b q=>.inl q).trans Y fun b q=>.inl q⟩ (by simp)
 ·simp only[ad]at D
  have F:U2= []:=aE.1 (by omega);have O:V2= []:=aE.1 (by rw[F,aS]at f;omega);subst F O;simp only[aX,dV]at c R;exact R h' c N
theorem LH{M:Nat→Prop}{h:ac}{s:SliceV}{A U V B:List (Pr)}(R:OwnS eJ 2 ag M h s (A++(U++(V++B))))(F:s.len≤1000000000)(T:0<U.length)(X:0<V.length){a m b:Nat}(W:a=A.length)(hm:m=A.length+U.length)(p:b=A.length+U.length+V.length){u:Value}{K:Unit→ac→Prop}
  (hk:∀h',OwnS eJ 2 ag M h' s (A++(V++(U++B)))→Upd M h h'→K () h'):HC PG fH [.slice s.a s.len s.cap,.int .i64 a,.int .i64 m,.int .i64 b,u] [] K h:=by
 subst W hm p;refine pF s A.length (A.length+U.length:Nat) (A.length+U.length+V.length:Nat) u ?_;unfold jE;have z:=R.len;simp only[ad]at z;have E:IntKind.wrap .i64 (((A.length+U.length:Nat):Int)-(A.length:Int))=(U.length:Int):=by rw[d8 (by omega)];omega
 have D:IntKind.wrap .i64 (((A.length+U.length+V.length:Nat):Int)-((A.length+U.length:Nat):Int))=(V.length:Int):=by rw[d8 (by omega)];omega
 rw[E,D];refine LoopP.ghost (fun(g:(List (Pr)×List (Pr))×List (Pr)×List (Pr)) (t:Int×Int) h'=>t.1=(g.1.2.length:Int)∧t.2=(g.2.1.length:Int)∧0<g.1.2.length∧0<g.2.1.length∧A.length+U.length=g.1.1.length+g.1.2.length∧g.1.1++(g.2.1++(g.1.2++g.2.2))=A++(V++(U++B))∧OwnS eJ 2 ag M h' s (g.1.1++(g.1.2++(g.2.1++g.2.2)))∧Upd M h h') (fun g=>g.1.2.length+g.2.1.length) ((A,U),V,B)
  ⟨rfl,rfl,T,X,rfl,rfl,R,Upd.refl _ _⟩ ?_
 rintro I ⟨⟨A',U'⟩,V',f⟩ ⟨ti,tj⟩ h' ⟨E,D,G,J,k,e,c,N⟩ Q;simp only at E D G J k e c;subst E D;have d:=c.len;simp only[ad]at d;have H:((A.length+U.length:Nat):Int)=((A'.length+U'.length:Nat):Int):=by omega
 rw[H];have S:IntKind.wrap .i64 (((A'.length+U'.length:Nat):Int)-(U'.length:Int))=(A'.length:Int):=by rw[d8 (by omega)];omega
 simp only;rw[S];refine CondP.intro (fun j=>?_) fun w=>?_
 ·have j:(U'.length:Int)≠(V'.length:Int):=by simpa using j
  refine aD (fun y=>?_) fun Z=>?_
  ·
   have y:V'.length<U'.length:=by omega
   obtain⟨U1,U2,rfl,i⟩:∃U1 U2,U'=U1++U2∧U1.length=V'.length:=⟨U'.take V'.length,U'.drop V'.length,(bc ..).symm,by rw[aP];omega⟩
   simp only[ad]at y d k j S;have C:A'++((U1++U2)++(V'++f))=A'++(U1++(U2++(V'++f))):=by simp
   have Y:A'++(V'++(U2++(U1++f)))=(A'++V')++(U2++(U1++f)):=by simp
   rw[C]at c;refine uC c F i rfl (b:=A'.length+(U1++U2).length) (by simp only[ad];omega) (n:=V'.length) i.symm fun O o v=>?_
   rw[Y]at o;have q:IntKind.wrap .i64 (((U1++U2).length:Int)-(V'.length:Int))=(U2.length:Int):=by rw[ad,d8 (by omega)];omega
   rw[q];refine Q ((A'++V',U2),U1,f) _ _ ⟨rfl,by simp only;omega,by simp only;omega,by simp only;omega,by simp only[ad];omega,?_,o,N.trans v fun b p=>.inl p⟩ (by simp only[ad];omega)
   rw[←e];simp
  ·have L:U'.length<V'.length:=by omega
   obtain⟨V1,V2,rfl,i⟩:∃V1 V2,V'=V1++V2∧V2.length=U'.length:=⟨V'.take (V'.length-U'.length),V'.drop (V'.length-U'.length),(bc ..).symm,by rw[aM];omega⟩
   simp only[ad]at L d j;have q:IntKind.wrap .i64 ((IntKind.wrap .i64 (((A'.length+U'.length:Nat):Int)+((V1++V2).length:Int)))-(U'.length:Int))=((A'.length+U'.length+V1.length:Nat):Int):=by
    rw[ad,d8 (x:=((A'.length+U'.length:Nat):Int)+((V1.length+V2.length:Nat):Int)) (by omega),d8 (by omega)];omega
   rw[q];have C:A'++(U'++((V1++V2)++f))=A'++(U'++(V1++(V2++f))):=by simp
   rw[C]at c;refine uC c F i.symm rfl rfl rfl fun O o v=>?_
   have P:IntKind.wrap .i64 (((V1++V2).length:Int)-(U'.length:Int))=(V1.length:Int):=by rw[ad,d8 (by omega)];omega
   rw[P];refine Q ((A',V2),V1,U'++f) _ _ ⟨by simp only;omega,rfl,by simp only;omega,by simp only;omega,by simp only;omega,?_,o,N.trans v fun b p=>.inl p⟩ (by simp only[ad];omega)
   rw[←e];simp
 ·have w:(U'.length:Int)=(V'.length:Int):=by simpa using w
  have C:A'++(U'++(V'++f))=A'++(U'++([]++(V'++f))):=by simp
  rw[C]at c;refine uC c F (by omega) rfl (b:=A'.length+U'.length) (by simp) rfl fun O o v=>?_
  rw[dV,e]at o;exact hk O o (N.trans v fun b p=>.inl p)
theorem Dp{lt:Pr→Pr→Bool}(w:WO lt){M:Nat→Prop}{Iv:ac→Prop}{v:Value}(hc:Cmp lt eJ M Iv v){h:ac}{s:SliceV}{A S B:List (Pr)}(ho:OwnS eJ 2 ag M h s (A++(S++B)))(hi:Iv h)(hn:s.len≤1000000000){a b:Nat}(c:a=A.length)(N:b=A.length+S.length){K:Unit→ac→Prop}
  (hk:∀h' R,OwnS eJ 2 ag M h' s (A++(R++B))→St lt S R→Upd M h h'→K () h'):HC PG du [.slice s.a s.len s.cap,.int .i64 a,.int .i64 b,v] [] K h:=by
 subst c N;refine lV s A.length (A.length+S.length:Nat) v ?_;unfold gK aZ cp mC ru aF m8 gQ;have d:=ho.len;simp only[ad]at d;have ea:IntKind.wrap .i64 ((A.length:Int)+1)=((A.length+1:Nat):Int):=by rw[d8 (by omega)];omega
 rw[ea];refine LoopP.ghost (fun(g:List (Pr)×List (Pr)×List (Pr)) (t:Int) h'=>t=((A.length+max 1 g.1.length:Nat):Int)∧S=g.1++g.2.2∧(g.1= []→g.2.2= [])∧St lt g.1 g.2.1∧OwnS eJ 2 ag M h' s (A++(g.2.1++(g.2.2++B)))∧Upd M h h') (fun g=>g.2.2.length) (S.take 1,S.take 1,S.drop 1)
  ⟨?_,(bc ..).symm,fun e=>?_,⟨Eqf.rfl _,?_⟩,by rw[←ax (S.take 1),bc];exact ho,Upd.refl _ _⟩ ?_
 ·simp only[aP];omega
 ·have:=congrArg List.length e
  simp only[aP,aS]at this;exact aE.1 (by simp only[aM];omega)
 ·match S with
  | []=>exact Srt.nil
  |x::S=>exact Srt.one x
 rintro I ⟨S1,X,T⟩ t h' ⟨O,H,j,f,q,hu⟩ hI;simp only at O H j f q;subst O H;simp only[ad]at d;have Y:=f.eqf.len;refine aD (fun C=>?_) fun hge=>?_
 ·simp only[ad]at C
  have hS1:S1≠[]:=fun e=>by
   have:=j e;subst e;subst this;simp only[aS]at C;omega
  have hS1l:0<S1.length:=List.length_pos_iff.2 hS1;match T with
  | []=>simp only[aS]at C;omega
  |x::T=>
   have J:A.length+max 1 S1.length=A.length+S1.length:=by omega
   rw[J];refine LoopP.ghost (fun(g:List (Pr)×List (Pr)) (t:Int) h2=>t=((A.length+g.1.length:Nat):Int)∧X=g.1++g.2∧(∀y∈g.2,lt x y=true)∧OwnS eJ 2 ag M h2 s (A++(g.1++(x::(g.2++(T++B)))))∧Upd M h h2) (fun g=>g.1.length) (X,[])
    ⟨by simp only;omega,by simp,fun y n=>(by cases n),by simpa using q,hu⟩ ?_
   rintro I2 ⟨L,G⟩ t2 h2 ⟨O,H,hG,k,D⟩ hI2;simp only at O H hG k;subst O H;simp only[ad]at Y;simp only[ao]at d;refine Join.intro (fun t Z=>Upd M h Z∧OwnS eJ 2 ag M Z s (A++(L++(x::(G++(T++B)))))∧(t=true→∃L' y,L=L'++ [y]∧lt x y=true)∧(t=false→∀y∈L,lt x y=false)) (fun Rj F=>?_) ?_
   ·refine aD (fun hgt=>?_) fun hle=>?_
    ·rcases IG L with rfl|⟨L',y,rfl⟩
     ·simp only[aS]at hgt;omega
     have o:(L'++ [y]).length=L'.length+1:=by simp
     have P:IntKind.wrap .i64 (((A.length+(L'++ [y]).length:Nat):Int)-1)=((A.length+L'.length:Nat):Int):=by rw[o,d8 (by omega)];omega
     rw[P];have U:A++((L'++ [y])++(x::(G++(T++B))))=(A++L')++y::(x::(G++(T++B))):=by simp
     have f2:A++((L'++ [y])++(x::(G++(T++B))))=(A++(L'++ [y]))++x::(G++(T++B)):=by simp
     have o3:=k;have E:=k;rw[U]at o3;rw[f2]at E;obtain⟨a,c,n⟩:=lI o3 (i:=A.length+L'.length) (by first|omega|(simp;done)|(simp;omega))
     obtain⟨a',m,hx⟩:=lI E (i:=A.length+(L'++ [y]).length) (by first|omega|(simp;done)|(simp;omega))
     rw[c]at m;cases m;refine⟨⟨by omega,by omega⟩,a,c,x.1,hx 0 _ rfl,x.2,hx 1 _ rfl,⟨by omega,by omega⟩,a,c,y.1,n 0 _ rfl,y.2,n 1 _ rfl,?_⟩
     refine hc.call x y (hc.step D hi) fun h5 e V he=>?_
     rw[he];have ho5:=k.upd V fun _ _ h=>h
     refine F _ _ ⟨D.tr V.wide,ho5,fun h=>⟨L',y,rfl,h⟩,fun h z p=>?_⟩
     have hs:=f.srt.left;rcases aN.1 p with p|p
     ·exact w.ntr x y z h (hs.cross z p y (av.2 rfl))
     ·rw[av.1 p];exact h
    ·have hL:L= []:=aE.1 (by omega)
     exact F _ _ ⟨D,k,fun h=>(by cases h),fun _ y n=>(by rw[hL]at n;cases n)⟩
   ·rintro t3 Z ⟨Q,u,ht,hf⟩
    cases t3 with
    |true=>
     obtain⟨L',y,rfl,W⟩:=ht rfl;have o:(L'++ [y]).length=L'.length+1:=by simp
     refine ar.2 ?_;have P:IntKind.wrap .i64 (((A.length+(L'++ [y]).length:Nat):Int)-1)=((A.length+L'.length:Nat):Int):=by rw[o,d8 (by omega)];omega
     rw[P];have U:A++((L'++ [y])++(x::(G++(T++B))))=(A++L')++y::(x::(G++(T++B))):=by simp
     have f2:(A++L')++y::(x::(G++(T++B)))=(A++(L'++ [y]))++x::(G++(T++B)):=by simp
     have f3:(A++(L'++ [y]))++y::(G++(T++B))=(A++L')++y::(y::(G++(T++B))):=by simp
     have f4:(A++L')++x::(y::(G++(T++B)))=A++(L'++(x::((y::G)++(T++B)))):=by simp
     rw[U]at u;have E:=u;rw[f2]at E;obtain⟨a,c,n⟩:=lI u (i:=A.length+L'.length) (by first|omega|(simp;done)|(simp;omega))
     obtain⟨a',m,hx⟩:=lI E (i:=A.length+(L'++ [y]).length) (by first|omega|(simp;done)|(simp;omega))
     rw[c]at m;cases m;refine⟨⟨by omega,by omega⟩,a,c,y.1,n 0 _ rfl,y.2,n 1 _ rfl,⟨by omega,by omega⟩,a,c,x.1,hx 0 _ rfl,x.2,hx 1 _ rfl,⟨by omega,by omega⟩,a,c,?_⟩
     refine uD E y c (by first|omega|(simp;done)|(simp;omega)) fun h5 o5 V=>⟨⟨by omega,by omega⟩,a,c,?_⟩
     rw[f3]at o5;refine uD o5 x c (by first|omega|(simp;done)|(simp;omega)) fun h6 o6 k6=>?_
     rw[f4]at o6;refine hI2 (L',y::G) _ _ ⟨rfl,by simp,fun z p=>?_,o6,(Q.trans V fun b N=>.inl N).trans k6 fun b N=>.inl N⟩ (by simp only[o];omega)
     rcases aq.1 p with rfl|p
     ·exact W
     ·exact hG z p
    |false=>
     refine ai.2 ?_;have P:IntKind.wrap .i64 (((A.length+S1.length:Nat):Int)+1)=((A.length+max 1 (S1.length+1):Nat):Int):=by rw[d8 (by omega)];omega
     rw[P];refine hI (S1++ [x],L++x::G,T) _ _ ⟨by simp,by simp,fun e=>(by simp at e),PD w f (hf rfl) hG,?_,Q⟩ (by simp)
     have U:A++((L++x::G)++(T++B))=A++(L++(x::(G++(T++B)))):=by simp
     rw[U];exact u
 ·simp only[ad]at hge
  have hT:T= []:=by
   rcases gI S1.length with h0|h0
   ·exact j (aE.1 h0)
   ·exact aE.1 (by omega)
  subst hT;rw[dV]at q;rw[aX]at hk;exact hk h' X q f hu
theorem Ao{lt:Pr→Pr→Bool}(w:WO lt){M:Nat→Prop}{Iv:ac→Prop}{cmp:Value}(hc:Cmp lt eJ M Iv cmp){s:SliceV}(hn:s.len≤1000000000):∀(n:Nat) {h:ac} {A U V B:List (Pr)},U.length+V.length≤n→OwnS eJ 2 ag M h s (A++(U++(V++B)))→Iv h→0<U.length→0<V.length→Srt lt U→Srt lt V→∀{a m b:Nat},a=A.length→m=A.length+U.length→b=A.length+U.length+V.length→∀{K:Unit→ac→Prop},
  (∀h' R,OwnS eJ 2 ag M h' s (A++(R++B))→St lt (U++V) R→Upd M h h'→K () h')→HC PG cE [.slice s.a s.len s.cap,.int .i64 a,.int .i64 m,.int .i64 b,cmp] [] K h:=by
 intro n;induction n with
 |zero=>intro h A U V B hl _ _ hU;omega
 |succ n ih=>
  intro h A U V B hl ho hi hU hV sU sV a m b ha hm O K hk;refine oK s a m b cmp ?_;unfold iZ aZ cp mC ru aF m8 gQ;have z:=ho.len;simp only[ad]at z;have e1:IntKind.wrap .i64 ((m:Int)-(a:Int))=(U.length:Int):=by rw[d8 (by omega)];omega
  have e2:IntKind.wrap .i64 ((b:Int)-(m:Int))=(V.length:Int):=by rw[d8 (by omega)];omega
  rw[e1,e2];refine CondP.intro (fun J=>?_) fun hmore=>?_
  ·have J:U.length=1:=by have:=eq_of_beq J;omega
   match U,J with
   | [u],_=>
   simp only[bd]at z hm O;refine LoopP.ghost (fun(g:Nat×Nat) (t:Int×Int) h'=>t.1=(g.1:Int)∧t.2=(g.2:Int)∧m≤g.1∧g.1≤g.2∧g.2≤b∧(∀q x,V[q]? =some x→m+q<g.1→lt x u=true)∧(∀q x,V[q]? =some x→g.2≤m+q→lt x u=false)∧OwnS eJ 2 ag M h' s (A++([u]++(V++B)))∧Upd M h h') (fun g=>g.2-g.1) (m,b)
    ⟨rfl,rfl,al _,by simp only;omega,al _,fun q x D h=>(by simp only at h;omega),fun q x D h=>(by have:=(bf.1 D).1;simp only at h;omega),ho,Upd.refl _ _⟩ ?_
   rintro I ⟨i,j⟩ ⟨ti,tj⟩ h' ⟨e1,e2,hmi,F,hjb,N,G,L,hu⟩ hI;simp only at e1 e2 hmi F hjb N G;subst e1 e2;refine aD (fun S=>?_) fun hge=>?_
   ·have S:i<j:=by have:(i:Int)<(j:Int):=S;omega
    refine⟨by decide,?_⟩;simp only[Bd];rw[Eh (by omega)];have Y:(i+j)/2-m<V.length:=by omega
    have hk0:(i+j)/2=A.length+1+((i+j)/2-m):=by omega
    obtain⟨X,f,hx⟩:=yf L (i:=(i+j)/2) (x:=V[(i+j)/2-m]) (Qa (U:= [u]) (k:=(i+j)/2-m) (by simp only[bd];omega) (aj Y));obtain⟨a2,C,hy⟩:=lI (P:=A) (x:=u) (Q:=V++B) L ha;rw[f]at C;cases C;have hVk:V[(i+j)/2-m]? =some V[(i+j)/2-m]:=aj Y;generalize V[(i+j)/2-m]=x at hx hVk;refine⟨⟨by omega,by omega⟩,X,f,x.1,hx 0 _ rfl,x.2,hx 1 _ rfl,⟨by omega,by omega⟩,X,f,u.1,hy 0 _ rfl,u.2,hy 1 _ rfl,?_⟩
    refine hc.call x u (hc.step hu hi) fun W e k5 he=>?_
    rw[he];have ho5:=L.upd k5 fun _ _ h=>h
    have hu5:=hu.tr k5.wide;cases hxu:lt x u with
    |true=>
     refine ar.2 ?_;have ew:IntKind.wrap .i64 ((((i+j)/2:Nat):Int)+1)=(((i+j)/2+1:Nat):Int):=by rw[d8 (by omega)];omega
     rw[ew];refine hI ((i+j)/2+1,j) _ _ ⟨rfl,rfl,by simp only;omega,by simp only;omega,hjb,fun q y D hqi=>?_,G,ho5,hu5⟩ (by simp only;omega)
     have hle:=ry w sV (i:=q) (j:=(i+j)/2-m) (by simp only at hqi;omega) D hVk;cases hyu:lt y u with
     |true=>rfl
     |false=>rw[w.ntr _ _ _ hle hyu]at hxu;cases hxu
    |false=>
     refine ai.2 ?_;refine hI (i,(i+j)/2) _ _ ⟨rfl,rfl,hmi,by simp only;omega,by simp only;omega,N,fun q y D hqi=>?_,ho5,hu5⟩ (by simp only;omega)
     have hle:=ry w sV (i:=(i+j)/2-m) (j:=q) (by simp only at hqi;omega) hVk D;exact w.ntr _ _ _ hle hxu
   ·have F:i=j:=by have:¬(i:Int)<(j:Int):=hge;omega
    subst F;obtain⟨V1,V2,rfl,hV1⟩:∃V1 V2,V=V1++V2∧V1.length=i-m:=⟨V.take (i-m),V.drop (i-m),(bc ..).symm,by rw[aP];omega⟩
    simp only[ad]at z O;have lo1:∀x∈V1,lt x u=true:=fun x hx=>by
     obtain⟨q,D,e⟩:=bA hx;exact N q x (by rw[bN D,aj D,e]) (by omega)
    have hi1:∀x∈V2,lt x u=false:=fun x hx=>by
     obtain⟨q,D,e⟩:=bA hx;exact G (V1.length+q) x (by rw[aU (by omega),eu,aj D,e]) (by omega)
    have hst:=HZ w sV lo1 hi1;have f0:A++([u]++((V1++V2)++B))=A++([]++(u::(V1++(V2++B)))):=by simp
    rw[f0]at L;have ew:IntKind.wrap .i64 ((i:Int)-1)=((A.length+V1.length:Nat):Int):=by rw[d8 (by omega)];omega
    rw[ew];refine LoopP.ghost (fun(g:List (Pr)×List (Pr)) (t:Int) H=>t=((A.length+g.1.length:Nat):Int)∧V1=g.1++g.2∧OwnS eJ 2 ag M H s (A++(g.1++(u::(g.2++(V2++B)))))∧Upd M h H) (fun g=>g.2.length) ([],V1)
     ⟨by simp[ha],rfl,L,hu⟩ ?_
    rintro I2 ⟨G1,E⟩ t2 H ⟨e1,e2,o,T⟩ hI2;simp only at e1 e2 o;subst e1 e2;simp only[ad]at z O ew⊢;refine aD (fun S=>?_) fun hge=>?_
    ·match E with
     | []=>simp only[aS]at S;omega
     |g::E=>
      simp only[ao]at z;have ew1:IntKind.wrap .i64 (((A.length+G1.length:Nat):Int)+1)=((A.length+G1.length+1:Nat):Int):=by rw[d8 (by omega)];omega
      rw[ew1];have f1:A++(G1++(u::((g::E)++(V2++B))))=(A++G1)++u::(g::(E++(V2++B))):=by simp
      have f2:(A++G1)++u::(g::(E++(V2++B)))=(A++(G1++ [u]))++g::(E++(V2++B)):=by simp
      have f3:(A++G1)++g::(g::(E++(V2++B)))=(A++(G1++ [g]))++g::(E++(V2++B)):=by simp
      have f4:(A++(G1++ [g]))++u::(E++(V2++B))=A++((G1++ [g])++(u::(E++(V2++B)))):=by simp
      rw[f1]at o;have o3:=o;rw[f2]at o3;obtain⟨X,f,hy⟩:=lI o3 (i:=A.length+G1.length+1) (by first|omega|(simp;done)|(simp;omega))
      obtain⟨a2,C,hx⟩:=lI o (i:=A.length+G1.length) (by first|omega|(simp;done)|(simp;omega))
      rw[f]at C;cases C;refine⟨⟨by omega,by omega⟩,X,f,g.1,hy 0 _ rfl,g.2,hy 1 _ rfl,⟨by omega,by omega⟩,X,f,u.1,hx 0 _ rfl,u.2,hx 1 _ rfl,⟨by omega,by omega⟩,X,f,?_⟩
      refine uD o g f (by first|omega|(simp;done)|(simp;omega)) fun W o5 k5=>⟨⟨by omega,by omega⟩,X,f,?_⟩
      rw[f3]at o5;refine uD o5 u f (by first|omega|(simp;done)|(simp;omega)) fun h6 o6 k6=>?_
      rw[f4]at o6;exact hI2 (G1++ [g],E) _ _ ⟨by simp;omega,by simp,o6,(T.trans k5 fun b O=>.inl O).trans k6 fun b O=>.inl O⟩ (by simp)
    ·have hG:E= []:=aE.1 (by omega)
     subst hG;simp only[aX,dV]at o hst hk;refine hk H (G1++u::V2) ?_ hst T;have f1:A++((G1++u::V2)++B)=A++(G1++(u::(V2++B))):=by simp
     rw[f1];exact o
  refine CondP.intro (fun J=>?_) fun hmore2=>?_
  ·have J:V.length=1:=by have:=eq_of_beq J;omega
   match V,J with
   | [v],_=>
   simp only[bd]at z O;refine LoopP.ghost (fun(g:Nat×Nat) (t:Int×Int) h'=>t.1=(g.1:Int)∧t.2=(g.2:Int)∧a≤g.1∧g.1≤g.2∧g.2≤m∧(∀q x,U[q]? =some x→a+q<g.1→lt v x=false)∧(∀q x,U[q]? =some x→g.2≤a+q→lt v x=true)∧OwnS eJ 2 ag M h' s (A++(U++([v]++B)))∧Upd M h h') (fun g=>g.2-g.1) (a,m)
    ⟨rfl,rfl,al _,by simp only;omega,al _,fun q x D h=>(by simp only at h;omega),fun q x D h=>(by have:=(bf.1 D).1;simp only at h;omega),ho,Upd.refl _ _⟩ ?_
   rintro I ⟨i,j⟩ ⟨ti,tj⟩ h' ⟨e1,e2,hmi,F,hjb,N,G,L,hu⟩ hI;simp only at e1 e2 hmi F hjb N G;subst e1 e2;refine aD (fun S=>?_) fun hge=>?_
   ·have S:i<j:=by have:(i:Int)<(j:Int):=S;omega
    refine⟨by decide,?_⟩;simp only[Bd];rw[Eh (by omega)];have Y:(i+j)/2-a<U.length:=by omega
    obtain⟨X,f,hx⟩:=yf L (i:=(i+j)/2) (x:=U[(i+j)/2-a]) (Nx (k:=(i+j)/2-a) (by omega) (aj Y));have f1:A++(U++([v]++B))=(A++U)++v::B:=by simp
    have o3:=L;rw[f1]at o3;obtain⟨a2,C,hy⟩:=lI o3 (i:=m) (by first|omega|(simp;done)|(simp;omega))
    rw[f]at C;cases C;have hVk:U[(i+j)/2-a]? =some U[(i+j)/2-a]:=aj Y;generalize U[(i+j)/2-a]=x at hx hVk;refine⟨⟨by omega,by omega⟩,X,f,v.1,hy 0 _ rfl,v.2,hy 1 _ rfl,⟨by omega,by omega⟩,X,f,x.1,hx 0 _ rfl,x.2,hx 1 _ rfl,?_⟩
    refine hc.call v x (hc.step hu hi) fun W e k5 he=>?_
    rw[he];have ho5:=L.upd k5 fun _ _ h=>h
    have hu5:=hu.tr k5.wide;cases hxu:lt v x with
    |false=>
     refine ar.2 ?_;have ew:IntKind.wrap .i64 ((((i+j)/2:Nat):Int)+1)=(((i+j)/2+1:Nat):Int):=by rw[d8 (by omega)];omega
     rw[ew];refine hI ((i+j)/2+1,j) _ _ ⟨rfl,rfl,by simp only;omega,by simp only;omega,hjb,fun q y D hqi=>?_,G,ho5,hu5⟩ (by simp only;omega)
     exact w.ntr _ _ _ hxu (ry w sU (i:=q) (j:=(i+j)/2-a) (by simp only at hqi;omega) D hVk)
    |true=>
     refine ai.2 ?_;refine hI (i,(i+j)/2) _ _ ⟨rfl,rfl,hmi,by simp only;omega,by simp only;omega,N,fun q y D hqi=>?_,ho5,hu5⟩ (by simp only;omega)
     have hle:=ry w sU (i:=(i+j)/2-a) (j:=q) (by simp only at hqi;omega) hVk D;cases hvy:lt v y with
     |true=>rfl
     |false=>rw[w.ntr _ _ _ hvy hle]at hxu;cases hxu
   ·have F:i=j:=by have:¬(i:Int)<(j:Int):=hge;omega
    subst F;obtain⟨U1,U2,rfl,hU1⟩:∃U1 U2,U=U1++U2∧U1.length=i-a:=⟨U.take (i-a),U.drop (i-a),(bc ..).symm,by rw[aP];omega⟩
    simp only[ad]at z O hm;have lo1:∀x∈U1,lt v x=false:=fun x hx=>by
     obtain⟨q,D,e⟩:=bA hx;exact N q x (by rw[bN D,aj D,e]) (by omega)
    have hi1:∀x∈U2,lt v x=true:=fun x hx=>by
     obtain⟨q,D,e⟩:=bA hx;exact G (U1.length+q) x (by rw[aU (by omega),eu,aj D,e]) (by omega)
    have hst:=JB w sU lo1 hi1;have f0:A++((U1++U2)++([v]++B))=A++(U1++(U2++(v::([]++B)))):=by simp
    rw[f0]at L;refine LoopP.ghost (fun(g:List (Pr)×List (Pr)) (t:Int) H=>t=((A.length+U1.length+g.1.length:Nat):Int)∧U2=g.1++g.2∧OwnS eJ 2 ag M H s (A++(U1++(g.1++(v::(g.2++B)))))∧Upd M h H) (fun g=>g.1.length) (U2,[])
     ⟨by simp only;omega,by simp,L,hu⟩ ?_
    rintro I2 ⟨G1,E⟩ t2 H ⟨e1,e2,o,T⟩ hI2;simp only at e1 e2 o;subst e1 e2;simp only[ad]at z O hm⊢;refine aD (fun hgt=>?_) fun hle=>?_
    ·rcases IG G1 with rfl|⟨G1',g,rfl⟩
     ·simp only[aS]at hgt;omega
     simp only[ad,bd]at z O hm hgt⊢;have ew1:IntKind.wrap .i64 (((A.length+U1.length+(G1'.length+1):Nat):Int)-1)=((A.length+U1.length+G1'.length:Nat):Int):=by rw[d8 (by omega)];omega
     rw[ew1];have f1:A++(U1++((G1'++ [g])++(v::(E++B))))=(A++(U1++(G1'++ [g])))++v::(E++B):=by simp
     have f2:(A++(U1++(G1'++ [g])))++v::(E++B)=(A++(U1++G1'))++g::(v::(E++B)):=by simp
     have f3:(A++(U1++(G1'++ [g])))++g::(E++B)=(A++(U1++G1'))++g::(g::(E++B)):=by simp
     have f4:(A++(U1++G1'))++v::(g::(E++B))=A++(U1++(G1'++(v::((g::E)++B)))):=by simp
     rw[f1]at o;have o3:=o;rw[f2]at o3;obtain⟨X,f,hy⟩:=lI o3 (i:=A.length+U1.length+G1'.length) (by first|omega|(simp;done)|(simp;omega))
     obtain⟨a2,C,hx⟩:=lI o (i:=A.length+U1.length+(G1'.length+1)) (by first|omega|(simp;done)|(simp;omega))
     rw[f]at C;cases C;refine⟨⟨by omega,by omega⟩,X,f,g.1,hy 0 _ rfl,g.2,hy 1 _ rfl,⟨by omega,by omega⟩,X,f,v.1,hx 0 _ rfl,v.2,hx 1 _ rfl,⟨by omega,by omega⟩,X,f,?_⟩
     refine uD o g f (by first|omega|(simp;done)|(simp;omega)) fun W o5 k5=>⟨⟨by omega,by omega⟩,X,f,?_⟩
     rw[f3]at o5;refine uD o5 v f (by first|omega|(simp;done)|(simp;omega)) fun h6 o6 k6=>?_
     rw[f4]at o6;exact hI2 (G1',g::E) _ _ ⟨rfl,by simp,o6,(T.trans k5 fun b O=>.inl O).trans k6 fun b O=>.inl O⟩ (by simp)
    ·have hG:G1= []:=aE.1 (by omega)
     subst hG;simp only[dV]at o hst hk;refine hk H (U1++v::E) ?_ hst T;have f1:A++((U1++v::E)++B)=A++(U1++(v::(E++B))):=by simp
     rw[f1];exact o
  have hU2:2≤U.length:=by
   have:(U.length:Int)≠1:=by simpa using hmore
   omega
  have hV2:2≤V.length:=by
   have:(V.length:Int)≠1:=by simpa using hmore2
   omega
  refine⟨by decide,?_⟩;simp only[Bd];rw[Eh (i:=a) (j:=b) (by omega)];obtain⟨d,hmid⟩:∃d,(a+b)/2=d:=⟨_,rfl⟩;rw[hmid];have em:IntKind.wrap .i64 ((d:Int)+(m:Int))=((d+m:Nat):Int):=by rw[d8 (by omega)];omega
  rw[em];have ep:IntKind.wrap .i64 (((d+m:Nat):Int)-1)=((d+m-1:Nat):Int):=by rw[d8 (by omega)];omega
  rw[ep];refine Join.intro (fun t h'=>h'=h∧∃s0 r0:Nat,t=((s0:Int),(r0:Int))∧a≤s0∧s0≤r0∧r0≤m∧r0≤d∧d+m≤b+s0∧(r0=d∨r0=m)∧(s0=a∨s0+b=d+m)) (fun Rj Z=>?_) ?_
  ·refine aD (fun hgt=>?_) fun hle=>?_
   ·have es:IntKind.wrap .i64 (((d+m:Nat):Int)-(b:Int))=((d+m-b:Nat):Int):=by rw[d8 (by omega)];omega
    rw[es];exact Z _ _ ⟨rfl,_,_,rfl,by omega,by omega,by omega,by omega,by omega,by omega,by omega⟩
   ·exact Z _ _ ⟨rfl,_,_,rfl,by omega,by omega,by omega,by omega,by omega,by omega,by omega⟩
  rintro t h' ⟨rfl,s0,r0,rfl,hs0,hsr,hrm,hrd,hsb,hr0,hs00⟩;refine LoopP.ghost (fun(g:Nat×Nat) (t:Int×Int) H=>t.1=(g.1:Int)∧t.2=(g.2:Int)∧s0≤g.1∧g.1≤g.2∧g.2≤r0∧(∀c x y,s0≤c→c<g.1→U[c-a]? =some x→V[d-1-c]? =some y→lt y x=false)∧(∀c x y,g.2≤c→c<r0→U[c-a]? =some x→V[d-1-c]? =some y→lt y x=true)∧OwnS eJ 2 ag M H s (A++(U++(V++B)))∧Upd M h' H) (fun g=>g.2-g.1) (s0,r0)
   ⟨rfl,rfl,al _,hsr,al _,fun c x y h1 H=>(by simp only at H;omega),fun c x y h1 H=>(by simp only at h1;omega),ho,Upd.refl _ _⟩ ?_
  rintro I ⟨i,j⟩ ⟨ti,tj⟩ H ⟨e1,e2,hsi,F,hjr,N,G,o,T⟩ hI;simp only at e1 e2 hsi F hjr N G;subst e1 e2;refine aD (fun S=>?_) fun hge=>?_
  ·have S:i<j:=by have:(i:Int)<(j:Int):=S;omega
   refine⟨by decide,?_⟩;rw[Eh (i:=i) (j:=j) (by omega)];obtain⟨c,hcc⟩:∃c,(i+j)/2=c:=⟨_,rfl⟩;rw[hcc];have hci:i≤c:=by omega
   have hcj:c<j:=by omega
   have eq:IntKind.wrap .i64 (((d+m-1:Nat):Int)-(c:Int))=((d+m-1-c:Nat):Int):=by rw[d8 (by omega)];omega
   rw[eq];have Y:c-a<U.length:=by omega
   have hk2:d-1-c<V.length:=by omega
   obtain⟨X,f,hx⟩:=yf o (i:=c) (x:=U[c-a]) (Nx (k:=c-a) (by omega) (aj Y));obtain⟨a2,C,hy⟩:=yf o (i:=d+m-1-c) (x:=V[d-1-c]) (Qa (k:=d-1-c) (by omega) (aj hk2));rw[f]at C;cases C;have hUc:U[c-a]? =some U[c-a]:=aj Y;have hVc:V[d-1-c]? =some V[d-1-c]:=aj hk2;generalize U[c-a]=x at hx hUc
   generalize V[d-1-c]=y at hy hVc;refine⟨⟨by omega,by omega⟩,X,f,y.1,hy 0 _ rfl,y.2,hy 1 _ rfl,⟨by omega,by omega⟩,X,f,x.1,hx 0 _ rfl,x.2,hx 1 _ rfl,?_⟩
   refine hc.call y x (hc.step T hi) fun W e k5 he=>?_
   rw[he];have ho5:=o.upd k5 fun _ _ h=>h
   have hu5:=T.tr k5.wide;cases hyx:lt y x with
   |false=>
    refine ar.2 ?_;have ew:IntKind.wrap .i64 ((c:Int)+1)=((c+1:Nat):Int):=by rw[d8 (by omega)];omega
    rw[ew];refine hI (c+1,j) _ _ ⟨rfl,rfl,by simp only;omega,by simp only;omega,hjr,fun c' x' y' h1 H hx' hy'=>?_,G,ho5,hu5⟩ (by simp only;omega)
    simp only at H;have q1:=ry w sU (i:=c'-a) (j:=c-a) (by omega) hx' hUc;have q2:=ry w sV (i:=d-1-c) (j:=d-1-c') (by omega) hVc hy';exact w.ntr _ _ _ (w.ntr _ _ _ q2 hyx) q1
   |true=>
    refine ai.2 ?_;refine hI (i,c) _ _ ⟨rfl,rfl,hsi,hci,by simp only;omega,N,fun c' x' y' h1 H hx' hy'=>?_,ho5,hu5⟩ (by simp only;omega)
    simp only at h1;have q1:=ry w sU (i:=c-a) (j:=c'-a) (by omega) hUc hx';have q2:=ry w sV (i:=d-1-c') (j:=d-1-c) (by omega) hy' hVc;cases hyx':lt y' x' with
    |true=>rfl
    |false=>rw[w.ntr _ _ _ (w.ntr _ _ _ q2 hyx') q1]at hyx;cases hyx
  have F:i=j:=by have:¬(i:Int)<(j:Int):=hge;omega
  subst F;have en:IntKind.wrap .i64 (((d+m:Nat):Int)-(i:Int))=((d+m-i:Nat):Int):=by rw[d8 (by omega)];omega
  simp only;rw[en];obtain⟨U1,U2,eU,hU1⟩:∃U1 U2,U=U1++U2∧U1.length=i-a:=⟨U.take (i-a),U.drop (i-a),(bc ..).symm,by rw[aP];omega⟩
  obtain⟨V1,V2,eV,hV1⟩:∃V1 V2,V=V1++V2∧V1.length=d-i:=⟨V.take (d-i),V.drop (d-i),(bc ..).symm,by rw[aP];omega⟩
  have c1:∀v∈V1,∀u∈U2,lt v u=true:=fun v hv u hu=>by
   obtain⟨q,D,e⟩:=bA hv;obtain⟨p,hp,e'⟩:=bA hu;have hlU:U.length=U1.length+U2.length:=by rw[eU,ad]
   have n1:0<U2.length:=by omega
   have n2:d-1-i<V1.length:=by omega
   have gx:U[i-a]? =some (U2[0]'n1):=by rw[eU,aU (by omega),←hU1,iz,aj (by omega)]
   have gy:V[d-1-i]? =some (V1[d-1-i]'n2):=by rw[eV,bN (by omega),aj (by omega)]
   have hQ:=G i _ _ (al _) (by omega) gx gy;have q1:=ry w sU (i:=i-a) (j:=i-a+p) (by omega) gx (by rw[eU,aU (by omega),←hU1,eu,aj hp,e']);have q2:=ry w sV (i:=q) (j:=d-1-i) (by omega) (by rw[eV,bN D,aj D,e]) gy;cases hvu:lt v u with
   |true=>rfl
   |false=>rw[w.ntr _ _ _ (w.ntr _ _ _ q2 hvu) q1]at hQ;cases hQ
  have c2:∀u∈U1,∀v∈V2,lt v u=false:=fun u hu v hv=>by
   obtain⟨p,hp,e'⟩:=bA hu;obtain⟨q,D,e⟩:=bA hv;have hlV:V.length=V1.length+V2.length:=by rw[eV,ad]
   have n1:i-1-a<U1.length:=by omega
   have n2:0<V2.length:=by omega
   have gx:U[i-1-a]? =some (U1[i-1-a]'n1):=by rw[eU,bN (by omega),aj (by omega)]
   have gy:V[d-1-(i-1)]? =some (V2[0]'n2):=by rw[eV,aU (by omega),show d-1-(i-1)-V1.length=0 by omega,aj (by omega)]
   have hQ:=N (i-1) _ _ (by omega) (by omega) gx gy;have q1:=ry w sU (i:=p) (j:=i-1-a) (by omega) (by rw[eU,bN hp,aj hp,e']) gx;have q2:=ry w sV (i:=d-i) (j:=d-i+q) (by omega) (by rw[eV,aU (by omega),hV1,iz,aj (by omega)]) (by rw[eV,aU (by omega),hV1,eu,aj D,e])
   have gy2:V[d-i]? =some (V2[0]'n2):=by rw[eV,aU (by omega),hV1,iz,aj (by omega)]
   exact w.ntr _ _ _ (w.ntr _ _ _ q2 hQ) q1
  subst eU eV;simp only[ad]at z hU hV hl hm O hU2 hV2;have sA1:=sU.left;have sA2:=sU.right;have sB1:=sV.left;have sB2:=sV.right;refine Join.intro (fun _ h3=>OwnS eJ 2 ag M h3 s (A++(U1++(V1++(U2++(V2++B)))))∧Upd M h' h3) (fun Rj Z=>?_) ?_
  ·have f1:A++((U1++U2)++((V1++V2)++B))=(A++U1)++(U2++(V1++(V2++B))):=by simp
   have f2:(A++U1)++(V1++(U2++(V2++B)))=A++(U1++(V1++(U2++(V2++B)))):=by simp
   refine Join.intro (fun t h3=>h3=H∧(t=true↔0<U2.length∧0<V1.length)) (fun Rk hRk=>?_) ?_
   ·refine aD (fun h=>hRk _ _ ⟨rfl,?_⟩) fun h=>hRk _ _ ⟨rfl,⟨fun h=>(by cases h),fun h=>(by omega)⟩⟩
    rw[decide_eq_true_iff];constructor
    ·intro h;constructor<;>omega
    ·rintro⟨h1,H⟩;omega
   ·rintro t h3 ⟨rfl,ht⟩
    cases t with
    |true=>
     obtain⟨p1,p2⟩:=ht.1 rfl;rw[f1]at o;refine ar.2 (LH o hn p1 p2 (by rw[ad];omega) (by rw[ad];omega) (by rw[ad];omega) fun h4 o4 k4=>Z _ _ ⟨?_,T.trans k4 fun b O=>.inl O⟩)
     rw[f2]at o4;exact o4
    |false=>
     have hz:U2= []∨V1= []:=by
      rcases gI U2.length with h|h
      ·exact .inl (aE.1 h)
      ·rcases gI V1.length with h3|h3
       ·exact .inr (aE.1 h3)
       ·have:=ht.2 ⟨h,h3⟩;cases this
     refine ai.2 (Z _ _ ⟨?_,T⟩);rw[f1]at o;rw[←f2];rcases hz with rfl|rfl
     ·exact o
     ·exact o
  rintro _ h3 ⟨o3,k3⟩;refine Join.intro (fun _ h4=>∃R1,OwnS eJ 2 ag M h4 s (A++(R1++(U2++(V2++B))))∧St lt (U1++V1) R1∧Upd M h' h4) (fun Rj Z=>?_) ?_
  ·refine Join.intro (fun t h4=>h4=h3∧(t=true↔0<U1.length∧0<V1.length)) (fun Rk hRk=>?_) ?_
   ·refine aD (fun h=>hRk _ _ ⟨rfl,?_⟩) fun h=>hRk _ _ ⟨rfl,⟨fun h=>(by cases h),fun h=>(by omega)⟩⟩
    rw[decide_eq_true_iff];constructor
    ·intro h;constructor<;>omega
    ·rintro⟨h1,H⟩;omega
   ·rintro t h4 ⟨rfl,ht⟩
    cases t with
    |true=>
     obtain⟨p1,p2⟩:=ht.1 rfl;refine ar.2 (ih (by omega) o3 (hc.step k3 hi) p1 p2 sA1 sB1 ha (by omega) (by omega) fun W R1 o5 s5 k5=>Z _ _ ⟨R1,o5,s5,k3.trans k5 fun b O=>.inl O⟩)
    |false=>
     refine ai.2 (Z _ _ ⟨U1++V1,by simpa using o3,⟨Eqf.rfl _,?_⟩,k3⟩)
     rcases gI U1.length with h|h
     ·rw[aE.1 h];exact sB1
     ·rcases gI V1.length with W|W
      ·rw[aE.1 W,aX];exact sA1
      ·have:=ht.2 ⟨h,W⟩;cases this
  rintro _ h4 ⟨R1,o4,s1,k4⟩;have hR1:=s1.eqf.len;rw[ad]at hR1;have fin:∀{W:ac} {R2:List (Pr)},OwnS eJ 2 ag M W s (A++(R1++(R2++B)))→St lt (U2++V2) R2→Upd M h' W→K () W:=fun{W R2} o5 s2 k5=>by
   refine hk W (R1++R2) ?_ (NZ w sU sV c1 c2 s1 s2) k5;rw[ax];exact o5
  refine Join.intro (fun t W=>W=h4∧(t=true↔0<U2.length∧0<V2.length)) (fun Rk hRk=>?_) ?_
  ·refine aD (fun h=>hRk _ _ ⟨rfl,?_⟩) fun h=>hRk _ _ ⟨rfl,⟨fun h=>(by cases h),fun h=>(by omega)⟩⟩
   rw[decide_eq_true_iff];constructor
   ·intro h;constructor<;>omega
   ·rintro⟨h1,H⟩;omega
  ·rintro t W ⟨rfl,ht⟩
   have f1:A++(R1++(U2++(V2++B)))=(A++R1)++(U2++(V2++B)):=by simp
   cases t with
   |true=>
    obtain⟨p1,p2⟩:=ht.1 rfl;rw[f1]at o4;refine ar.2 (ih (by omega) o4 (hc.step k4 hi) p1 p2 sA2 sB2 (by rw[ad];omega) (by rw[ad];omega) (by rw[ad];omega) fun h6 R2 o6 s6 k6=>fin (R2:=R2) ?_ s6 (k4.trans k6 fun b O=>.inl O))
    rw[ax]at o6;exact o6
   |false=>
    refine ai.2 (fin (R2:=U2++V2) (by simpa using o4) ⟨Eqf.rfl _,?_⟩ k4);rcases gI U2.length with h|h
    ·rw[aE.1 h];exact sB2
    ·rcases gI V2.length with h6|h6
     ·rw[aE.1 h6,aX];exact sA2
     ·have:=ht.2 ⟨h,h6⟩;cases this
theorem Ls{lt:Pr→Pr→Bool}(w:WO lt){M:Nat→Prop}{Iv:ac→Prop}{e:Value}(hc:Cmp lt eJ M Iv e){h:ac}{s:SliceV}{xs:List (Pr)}(ho:OwnS eJ 2 ag M h s xs)(hi:Iv h)(hn:xs.length≤100000000){K:Unit→ac→Prop}
  (hk:∀h' R,OwnS eJ 2 ag M h' s R→St lt xs R→Upd M h h'→K () h'):HC PG cH [.slice s.a s.len s.cap,e] [] K h:=by
 refine jM s e ?_;unfold fl;refine pE s (s.len:Int) e ?_;unfold jD;have j:=ho.len;have i:s.len≤1000000000:=by omega
 refine LoopP.ghost (fun(g:List (Pr)×List (Pr)×List (Pr)) (t:Int×Int) h'=>t.1=(g.2.1.length:Int)∧t.2=((g.2.1.length+20:Nat):Int)∧xs=g.1++g.2.2∧Eqf lt g.1 g.2.1∧Full lt 20 g.2.1∧OwnS eJ 2 ag M h' s (g.2.1++g.2.2)∧Upd M h h') (fun g=>g.2.2.length) ([],[],xs)
  ⟨rfl,rfl,rfl,Eqf.rfl _,Full.nil,ho,Upd.refl _ _⟩ ?_
 rintro I ⟨X,D,T⟩ ⟨ta,tb⟩ h1 ⟨m,E,Q,d,k,L,k1⟩ hI;simp only at m E Q d k L;subst m E Q;have hXD:=d.len;simp only[ad]at j hn;refine aD (fun hle=>?_) fun H=>?_
 ·obtain⟨S,Z,rfl,hS⟩:∃S Z,T=S++Z∧S.length=20:=⟨T.take 20,T.drop 20,(bc ..).symm,by rw[aP];omega⟩
  refine Dp w hc L (hc.step k1 hi) i rfl (b:=D.length+20) (by omega) fun h2 R z q F=>?_
  have y:=q.eqf.len;simp only[ad]at j hn;have O:IntKind.wrap .i64 (((D.length+20:Nat):Int)+20)=(((D++R).length+20:Nat):Int):=by rw[ad,d8 (by omega)];omega
  rw[O];refine hI (X++S,D++R,Z) _ _ ⟨by simp only[ad];omega,rfl,by simp,d.app q.eqf,k.app (by omega) q.srt,by rw[ax];exact z,k1.trans F fun b u=>.inl u⟩ (by simp only[ad];omega)
 have V:D++T=D++(T++ []):=by simp
 rw[V]at L;refine Dp w hc L (hc.step k1 hi) i rfl (b:=s.len) (by omega) fun h2 R z q F=>?_
 have y:=q.eqf.len;rw[aX]at z;have v:Eqf lt (X++T) (D++R):=d.app q.eqf;have B:Runs lt 20 (D++R):=k R (.last R (by omega) q.srt);have F:Upd M h h2:=k1.trans F fun b u=>.inl u
 generalize D++R=ys at z v B;generalize X++T=zs at v hk;have c:s.len=ys.length:=z.len;clear hI d k L V H y;refine LoopP.ghost (fun(g:Nat×List (Pr)) (t:Int) h'=>t=(g.1:Int)∧0<g.1∧g.1≤200000000∧Runs lt g.1 g.2∧Eqf lt zs g.2∧OwnS eJ 2 ag M h' s g.2∧Upd M h h') (fun g=>s.len-g.1) (20,ys)
  ⟨rfl,by simp,by simp,B,v,z,F⟩ ?_
 rintro I2 ⟨a,ys⟩ t h3 ⟨m,hb0,hb1,hr,x,U,k3⟩ hI2;simp only at m hb0 hb1 hr x U;subst m;have c:s.len=ys.length:=U.len;refine aD (fun hlt=>?_) fun hge=>?_
 ·have hlt:a<s.len:=by omega
  have e0:IntKind.wrap .i64 (2*(a:Int))=((2*a:Nat):Int):=by rw[d8 (by omega)];omega
  rw[e0];refine LoopP.ghost (fun(g:List (Pr)×List (Pr)×List (Pr)) (t:Int×Int) h'=>t.1=(g.2.1.length:Int)∧t.2=((g.2.1.length+2*a:Nat):Int)∧ys=g.1++g.2.2∧Eqf lt g.1 g.2.1∧Full lt (2*a) g.2.1∧Runs lt a g.2.2∧OwnS eJ 2 ag M h' s (g.2.1++g.2.2)∧Upd M h h') (fun g=>g.2.2.length) ([],[],ys)
   ⟨rfl,by simp,rfl,Eqf.rfl _,Full.nil,hr,U,k3⟩ ?_
  rintro I3 ⟨Y,D,T⟩ ⟨ta,tb⟩ h4 ⟨m,E,Q,d,k,f,N,J⟩ hI3;simp only at m E Q d k f N;subst m E Q;have hYD:=d.len;simp only[ad]at c;have ea:IntKind.wrap .i64 ((D.length:Int)+(a:Int))=((D.length+a:Nat):Int):=by rw[d8 (by omega)];omega
  simp only;rw[ea];refine aD (fun hle=>?_) fun H=>?_
  ·obtain⟨B1,T1,rfl,hB1,o,n⟩:=f.split (by omega)
   simp only[ad]at c;obtain⟨B2,T2,rfl,hB2,sB2,W⟩:=n.split (by omega);simp only[ad]at c;refine Ao w hc i (B1.length+B2.length) (al _) N (hc.step J hi) (by omega) (by omega) o sB2 rfl (by omega) (by omega) fun G R A p P=>?_
   have y:=p.eqf.len;rw[ad]at y;have O:IntKind.wrap .i64 (((D.length+2*a:Nat):Int)+((2*a:Nat):Int))=(((D++R).length+2*a:Nat):Int):=by rw[ad,d8 (by omega)];omega
   rw[O];refine hI3 (Y++(B1++B2),D++R,T2) _ _ ⟨by simp only[ad];omega,rfl,by simp,d.app p.eqf,k.app (by omega) p.srt,W,by rw[ax];exact A,J.trans P fun b u=>.inl u⟩ (by simp only[ad];omega)
  ·refine Join.intro (fun _ G=>∃R,Eqf lt T R∧Runs lt (2*a) R∧OwnS eJ 2 ag M G s (D++R)∧Upd M h G) (fun Rj C=>?_) ?_
   ·refine aD (fun hmn=>?_) fun hmn=>?_
    ·obtain⟨B1,T1,rfl,hB1,o,n⟩:=f.split (by omega)
     simp only[ad]at c;have V:D++(B1++T1)=D++(B1++(T1++ [])):=by simp
     rw[V]at N;refine Ao w hc i (B1.length+T1.length) (al _) N (hc.step J hi) (by omega) (by omega) o (n.short (by omega)) rfl (by omega) (by omega) fun G R A p P=>?_
     have y:=p.eqf.len;rw[ad]at y;rw[aX]at A;exact C _ _ ⟨R,p.eqf,.last R (by omega) p.srt,A,J.trans P fun b u=>.inl u⟩
    ·exact C _ _ ⟨T,Eqf.rfl _,.last T (by omega) (f.short (by omega)),N,J⟩
   ·rintro _ G ⟨R,q5,r5,A,P⟩
    have O:IntKind.wrap .i64 ((a:Int)*2)=((2*a:Nat):Int):=by rw[d8 (by omega)];omega
    rw[O];exact hI2 (2*a,D++R) _ _ ⟨rfl,by simp only;omega,by simp only;omega,k R r5,x.tr (d.app q5),A,P⟩ (by simp only;omega)
 ·exact hk h3 ys U ⟨x,hr.short (by omega)⟩ k3
end Go.Proofs
namespace Go.Proofs
open Go Go.Lift
variable {z0:Hs}
end Go.Proofs
namespace Go.Proofs
open Go Go.Lift
def StP(N:Nat):Prop:=∀{lt:Pr→Pr→Bool},WO lt→∀{M:Nat→Prop} {Iv:ac→Prop} {cmp:Value},Cmp lt eJ M Iv cmp→∀{h:ac} {s:SliceV} {xs:List Pr},OwnS eJ 2 ag M h s xs→Iv h→xs.length≤N→∀{K:Unit→ac→Prop},
 (∀h' R,OwnS eJ 2 ag M h' s R→St lt xs R→Upd M h h'→K () h')→HC PG cH [.slice s.a s.len s.cap,cmp] [] K h
theorem stP:StP 100000000:=fun w _ _ _ hc _ _ _ a hi b _ c=>Ls w hc a hi b c
end Go.Proofs
namespace Go.Proofs
open Go Go.Lift
def RV(a b:Pr):Bool:=decide (kl a.1 b.1)
theorem Tp:WO RV:=by
 refine⟨fun a=>decide_eq_false (cn _),fun a b h=>decide_eq_false fun k=>cn _ (gU (of_decide_eq_true h) k),fun a b c h k=>decide_eq_false fun d=>?_⟩
 have h:=of_decide_eq_false h;have k:=of_decide_eq_false k;by_cases e:b.1=c.1
 ·rw[←e]at d;exact h d
 ·have f:=rB k e
  exact h (gU d f)
theorem So(x a:Pr):Ky RV x a=decide (a.1=x.1):=by
 unfold Ky RV;by_cases e:a.1=x.1
 ·rw[decide_eq_true e,e,decide_eq_false (cn _)];rfl
 ·rw[decide_eq_false e]
  by_cases h:kl a.1 x.1
  ·rw[decide_eq_true h];rfl
  ·rw[decide_eq_false h,decide_eq_true (rB h e)];rfl
def jK(l:List Pr)(k:ByteArray):Option Pr:=(l.filter fun q=>decide (q.1=k)).getLast?
theorem sF(q:Pr)(l:List Pr)(k:ByteArray):jK (q::l) k=if q.1=k then some ((jK l k).getD q)else jK l k:=by
 unfold jK;rw[List.filter_cons];by_cases h:q.1=k
 ·rw[if_pos (decide_eq_true h),if_pos h,List.getLast?_cons]
 ·rw[if_neg (by simpa using h),if_neg h]
theorem Oq{l:List Pr}{k:ByteArray}{p:Pr}(h:jK l k=some p):p.1=k:=by
 unfold jK at h;have:=List.mem_of_getLast? h;exact of_decide_eq_true (ci.1 this).2
theorem Hh{l:List Pr}{k:ByteArray}{p:Pr}(h:jK l k=some p):p∈l:=by
 unfold jK at h;exact(ci.1 (List.mem_of_getLast? h)).1
theorem L5{l:List Pr}{k:ByteArray}(h:∀q∈l,q.1≠k):jK l k=none:=by
 unfold jK;rw[List.filter_eq_nil_iff.2 fun q a=>by simpa using h q a];rfl
theorem Qo{l l':List Pr}(h:Eqf RV l l')(k:ByteArray):jK l' k=jK l k:=by
 unfold jK;have:=h.flt (k,k);have e:∀m:List Pr,m.filter (Ky RV (k,k))=m.filter fun q=>decide (q.1=k):=fun m=>List.filter_congr fun q _=>So (k,k) q
 rw[e,e]at this;rw[this]
def JC(l:List Pr):List Pr:=l.foldl (fun acc p=>jZ p acc) []
theorem Ci:∀(l:List Pr) {acc:List Pr},bV acc→bV (l.foldl (fun acc p=>jZ p acc) acc)∧∀p,p∈l.foldl (fun acc p=>jZ p acc) acc↔jK l p.1=some p∨(jK l p.1=none∧p∈acc)
 | [],acc,hr=>⟨hr,fun p=>by simp[jK]⟩
 |q::l,acc,hr=>by
  obtain⟨d,c⟩:=Ci l (yc q hr);refine⟨d,fun p=>?_⟩
  rw[List.foldl_cons,c p,sF,qM hr];by_cases e:q.1=p.1
  ·rw[if_pos e]
   cases hl:jK l p.1 with
   |none=>
    simp only[Option.getD_none,Option.some.injEq,reduceCtorEq,false_or,false_and,or_false];constructor
    ·rintro⟨_,rfl|⟨_,h⟩⟩
     ·rfl
     ·exact absurd e.symm h
    ·rintro rfl;exact⟨trivial,.inl rfl⟩
   |some r=>simp
  ·rw[if_neg e]
   constructor
   ·rintro(h|⟨h,rfl|⟨a,_⟩⟩)
    ·exact .inl h
    ·exact absurd rfl e
    ·exact .inr ⟨h,a⟩
   ·rintro(h|⟨h,a⟩)
    ·exact .inl h
    ·exact .inr ⟨h,.inr ⟨a,fun b=>e b.symm⟩⟩
theorem GQ(l:List Pr):bV (JC l):=(Ci l db).1
theorem Nt{l:List Pr}{p:Pr}:p∈JC l↔jK l p.1=some p:=by
 have:=(Ci l (acc:= []) db).2 p;unfold JC;rw[this];simp
def ly:List Pr→List Pr
 | []=> []
 | [p]=> [p]
 |p::q::l=>if q.1=p.1 then ly (q::l)else p::ly (q::l)
theorem qO(p q:Pr)(l:List Pr):ly (p::q::l)=if q.1=p.1 then ly (q::l)else p::ly (q::l):=rfl
theorem zu:∀(l:List Pr),∀p∈ly l,p∈l
 | [],p,h=>h
 | [q],p,h=>h
 |q::r::l,p,h=>by
  rw[qO]at h;split at h
  ·exact az _ (zu (r::l) p h)
  ·rcases aq.1 h with rfl|h
   ·exact au ..
   ·exact az _ (zu (r::l) p h)
theorem Hg:∀{l:List Pr},Srt RV l→bV (ly l)∧∀p,p∈ly l↔jK l p.1=some p
 | [],_=>⟨db,fun p=>by simp[ly,jK]⟩
 | [q],_=>⟨List.pairwise_singleton ..,fun p=>by
   show p∈[q]↔_
   rw[av,sF]
   by_cases e:q.1=p.1
   ·rw[if_pos e];simp[jK,eq_comm]
   ·rw[if_neg e];simp only[jK,List.filter_nil,List.getLast?_nil,reduceCtorEq,iff_false]
    rintro rfl;exact e rfl⟩
 |p::q::l,hs=>by
  have c:=aB.1 hs;obtain⟨i,g⟩:=Hg (l:=q::l) c.2;rw[qO];by_cases e:q.1=p.1
  ·rw[if_pos e]
   refine⟨i,fun r=>?_⟩
   rw[g r,sF p];by_cases a:p.1=r.1
   ·rw[if_pos a]
    have:jK (q::l) r.1≠none:=by
     rw[sF,if_pos (e.trans a)];simp
    cases hl:jK (q::l) r.1 with
    |none=>exact absurd hl this
    |some z=>simp
   ·rw[if_neg a]
  ·rw[if_neg e]
   have d:∀r∈q::l,kl p.1 r.1:=fun r f=>by
    have b:kl p.1 q.1:=by
     have:=of_decide_eq_false (c.1 q (au ..));exact rB this e
    rcases aq.1 f with rfl|f
    ·exact b
    ·have:=of_decide_eq_false ((aB.1 c.2).1 r f)
     by_cases a:r.1=q.1
     ·rw[a];exact b
     ·exact gU b (rB this a)
   refine⟨aB.2 ⟨fun r f=>d r (zu _ r f),i⟩,fun r=>?_⟩
   rw[aq,g r,sF p];by_cases a:p.1=r.1
   ·rw[if_pos a]
    have k:jK (q::l) r.1=none:=L5 fun z j m=>by
     have:=d z j;rw[m,a]at this;exact cn _ this
    rw[k];simp[eq_comm]
   ·rw[if_neg a]
    constructor
    ·rintro(rfl|h)
     ·exact absurd rfl a
     ·exact h
    ·exact .inr
theorem L4{l ys:List Pr}(h:St RV l ys):ly ys=JC l:=by
 obtain⟨b,a⟩:=Hg h.srt;refine yd b (GQ l) fun p=>?_
 rw[a p,Nt,Qo h.eqf]
theorem UL(M:Nat→Prop):Cmp RV eJ M (fun _=>True) (.func (.func rE) #[] #[]):=by
 refine⟨fun a b h K _ e=>HV.mk' (D0 a b ?_),fun _ h=>h⟩
 unfold wT ru ay vR;refine bi fun i b1 k1=>bi fun g b2 c=>?_
 have c1:=c.get0 b1;refine⟨a.1,vc c1 0,a.2,vc c1 1,b.1,vc b2 0,?_⟩;refine Ka fun d f=>e d _ ((k1.tr c).tr f) ?_
 unfold Gl RV;split
 ·rename_i h;rw[decide_eq_true h];rfl
 ·rename_i h
  rw[decide_eq_false h];split<;>rfl
theorem E3:∀(l:List Pr),(ly l).length≤l.length
 | []=>al _
 | [_]=>al _
 |p::q::l=>by
  rw[qO];have:=E3 (q::l);split
  ·simp only[ao]at this⊢;omega
  ·simp only[ao]at this⊢;omega
theorem PX{h:ac}{t:TypeId}{p:Pr}{k:ac→Prop}(b:∀h',h'[h.size]? =some (.cells #[.string p.1,.string p.2] t (0,0))→Upd No h h'→k h'):
 At (hnew h [.string (⟨#[]⟩:ByteArray),.string (⟨#[]⟩:ByteArray)] t) (fun a=>sw a (some (aO h)) 0 [.string p.1,.string p.2]∧At (hH a (aO h) 0 [.string p.1,.string p.2]) k):=EZ (p:=p) b
theorem Lu{N:Nat}(st:StP N)(hN:N≤100000000){W W':Nat→Prop}{h:ac}{s:SliceV}{l:List Pr}(hs:Sl eJ 2 W h s l)(V:∀y,W' y→y<h.size)(hn:l.length≤N){K:SliceV→ac→Prop}
  (hk:∀s' h',Sl eJ 2 W' h' s' (JC l)→s'.len≤s'.cap→Upd No h h'→K s' h'):HC PG qz [.slice s.a s.len s.cap] [.c .slice] K h:=by
 refine Gw s ?_;unfold y5 aZ cp nv aF ay rp m8 gQ;refine vf hs (by omega) fun H h1 ho1 w=>?_
 refine st Tp (UL _) ho1 trivial (by omega) fun h2 ys B z Y=>?_
 have hyl:=z.eqf.len;have C:Upd No h h2:=w.trans Y fun x hx=>.inr hx
 have hlen:=B.len;have u:=L4 z;have z1:=w.size;have hll:=E3 ys;refine LoopP.ghost (fun(g:List Pr×List Pr×List Pr) (t:Int×Int) h'=>t.1=(g.1.length:Int)∧t.2=((g.1.length+g.2.1.length:Nat):Int)∧g.1++ly g.2.2=ly ys∧g.1.length+g.2.1.length+g.2.2.length=ys.length∧OwnS eJ 2 ag (fun b=>h.size≤b) h' H (g.1++(g.2.1++g.2.2))∧Upd No h h') (fun g=>g.2.2.length) ([],[],ys)
  ⟨rfl,rfl,rfl,by simp,B,C⟩ ?_
 rintro I ⟨R,G,T⟩ ⟨tn,ti⟩ h3 ⟨e1,F,f,k,j,D⟩ hI;simp only at e1 F f k j;subst e1 F;refine aD (fun hlt=>?_) fun hge=>?_
 ·match T with
  | []=>simp only[aS]at k;omega
  |p::T=>
   simp only[ao]at k;have ew:IntKind.wrap .i64 (((R.length+G.length:Nat):Int)+1)=((R.length+G.length+1:Nat):Int):=by rw[d8 (by omega)];omega
   simp only;rw[ew];refine Join.intro (fun n' h'=>∃R' G',n'=(R'.length:Int)∧R'.length+G'.length=R.length+G.length+1∧R'++ly T=ly ys∧OwnS eJ 2 ag (fun b=>h.size≤b) h' H (R'++(G'++T))∧Upd No h h') (fun Rj n=>?_) ?_
   ·obtain⟨a,E,hv⟩:=yf j (i:=R.length+G.length) (x:=p) (by rw[aU (by omega),eu,aU (al _),iz];rfl)
    refine⟨⟨by omega,by omega⟩,a,E,p.1,hv 0 _ rfl,p.2,hv 1 _ rfl,?_⟩
    refine PX (p:=p) fun h4 O k4=>?_
    have d:=j.upd k4 fun _ _ h=>h
    have o:=D.tr k4;refine Join.intro (fun t h'=>h'=h4∧(t=true↔∃q v,T=q::v∧q.1=p.1)) (fun Rk A=>?_) ?_
    ·refine aD (fun hlt2=>?_) fun hge2=>A _ _ ⟨rfl,⟨fun h=>(by cases h),fun⟨q,v,e,_⟩=>(by subst e;simp only[ao]at k;omega)⟩⟩
     rcases T with _|⟨q,T⟩
     ·simp only[aS]at k;omega
     ·obtain⟨a',ha',Q⟩:=yf d (i:=R.length+G.length+1) (x:=q) (by rw[aU (by omega),show R.length+G.length+1-R.length=G.length+1 by omega,aU (by omega),eu];rfl)
      refine⟨⟨by omega,by omega⟩,a',ha',q.1,Q 0 _ rfl,p.1,vc O 0,A _ _ ⟨rfl,?_⟩⟩
      rw[fw,decide_eq_true_iff];exact⟨fun e=>⟨q,T,rfl,e⟩,fun⟨q',v,e,e'⟩=>by cases e;exact e'⟩
    ·rintro t h5 ⟨rfl,ht⟩
     ·cases t with
      |true=>
       obtain⟨q,v,rfl,eq⟩:=ht.1 rfl;refine ar.2 (n _ _ ⟨R,G++ [p],rfl,by simp;omega,?_,by simpa using d,o⟩)
       rw[←f,qO,if_pos eq]
      |false=>
       have J:ly (p::T)=p::ly T:=by
        rcases T with _|⟨q,v⟩
        ·rfl
        ·rw[qO,if_neg fun e=>by have:=ht.2 ⟨q,v,rfl,e⟩;cases this]
       refine ai.2 ⟨p.1,vc O 0,p.2,vc O 1,⟨by omega,by omega⟩,a,E,?_⟩
       have ew2:IntKind.wrap .i64 ((R.length:Int)+1)=((R++ [p]).length:Int):=by rw[ad,bd,d8 (by omega)];omega
       rw[ew2];rcases G with _|⟨g,G⟩
       ·rw[dV]at d
        refine uD d p E (by simp) fun h6 S P=>n _ _ ⟨R++ [p],[],rfl,by simp,?_,by simpa using S,o.trans P fun b Z=>.inr Z⟩
        rw[←f,J];simp
       ·have f1:R++((g::G)++p::T)=R++g::(G++p::T):=by simp
        rw[f1]at d;refine uD d p E (by simp) fun h6 S P=>n _ _ ⟨R++ [p],G++ [p],rfl,by simp;omega,?_,by simpa using S,o.trans P fun b Z=>.inr Z⟩
        rw[←f,J];simp
   ·rintro n' h6 ⟨R',G',rfl,L,hl6,ho6,U⟩
    exact hI (R',G',T) _ _ ⟨rfl,by simp only;rw[L],hl6,by simp only;omega,ho6,U⟩ (by simp)
 ·have J:T= []:=aE.1 (by omega)
  subst J;simp only[aS]at k;simp only[ly,aX]at f j;have hcap:=j.cap;refine⟨⟨by simp only;omega,by simp only;omega⟩,?_⟩
  have X:=j.sl (W:=W') fun x hx _ hw=>by have:=V x hw;omega
  have hA:=Sl.sub X (l:=0) (hi:=R.length) (m:=H.cap) (c:=H.cap-0) (bS _) (by simp) (by omega);have F:((R++G).drop 0).take (R.length-0)=JC l:=by rw[List.drop_zero,Nat.sub_zero,List.take_left];exact f.trans u
  rw[F]at hA;exact hk _ _ hA (by simp only;omega) D
theorem N0{W W':Nat→Prop}{h:ac}{s:SliceV}{l:List Pr}(c:Sl eJ 2 W h s l)(a:∀y,W' y→y<h.size)(d:l.length≤10000000){K:SliceV→ac→Prop}
 (b:∀s' h',Sl eJ 2 W' h' s' (JC l)→s'.len≤s'.cap→Upd No h h'→K s' h'):HC PG qz [.slice s.a s.len s.cap] [.c .slice] K h:=Lu stP (al _) c a (by omega) b
end Go.Proofs
namespace Go.Proofs
open Go Go.Lift
theorem PZ{β:Type}{g:Nat→Option β}{n:Nat}{y:β}:y∈fm g n↔∃c,c<n∧g c=some y:=by
 unfold fm;rw[List.mem_filterMap];exact⟨fun⟨c,b,a⟩=>⟨c,fS.1 b,a⟩,fun⟨c,b,a⟩=>⟨c,fS.2 b,a⟩⟩
def wl(x:Hs):Nat→List Pr→List Pr
 |0,l=>l
 |m+1,l=>uW x (12-m) l++(xq x (12-m) l).flatMap (wl x m)
theorem HN(x:Hs)(m:Nat)(l:List Pr):wl x (m+1) l=uW x (12-m) l++(xq x (12-m) l).flatMap (wl x m):=rfl
theorem E0{x:Hs}{p:Pr}:∀(m:Nat) {l:List Pr},p∈wl x m l↔p∈l
 |0,_=>Iff.rfl
 |m+1,l=>by
  rw[HN,aN,List.mem_flatMap];constructor
  ·rintro(h|⟨L,d,h⟩)
   ·exact Hb h
   ·obtain⟨_,c,rfl⟩:=Hc d
    exact(me.1 ((E0 m).1 h)).1
  ·intro h
   have hm:p∈part x (12-m) (ck x (12-m) p.1) l:=me.2 ⟨h,rfl⟩;have hc:=yR x (12-m) p.1;rcases d:part x (12-m) (ck x (12-m) p.1) l with _|⟨a,_|⟨b,r⟩⟩
   ·rw[d]at hm;cases hm
   ·left
    rw[d]at hm;rw[av.1 hm];unfold uW;exact PZ.2 ⟨_,hc,by show H1 (part x (12-m) (ck x (12-m) p.1) l)=_;rw[d];rfl⟩
   ·right
    refine⟨a::b::r,?_,(E0 m).2 (by rw[←d];exact hm)⟩;unfold xq;exact PZ.2 ⟨_,hc,by show Ca (part x (12-m) (ck x (12-m) p.1) l)=_;rw[d];rfl⟩
theorem Ks{f:List Pr→List Pr}(h:∀l,(f l).length≤l.length):∀ls:List (List Pr),(ls.flatMap f).length≤ls.flatten.length
 | []=>al _
 |l::ls=>by
  have b:=h l;have a:=Ks h ls;rw[aK,List.flatten_cons,ad,ad];omega
theorem HO(x:Hs):∀(m:Nat) (l:List Pr),(wl x m l).length≤l.length
 |0,_=>al _
 |m+1,l=>by
  rw[HN,ad];have b:=GR x (12-m) l;have a:=Ks (HO x m) (xq x (12-m) l);omega
theorem S8{x:Hs}{m:Nat}{l:List Pr}(b:bV l):JC (wl x m l)=l:=by
 refine yd (GQ _) b fun p=>?_
 rw[Nt];constructor
 ·intro h;exact(E0 m).1 (Hh h)
 ·intro h
  have c:p∈(wl x m l).filter fun q=>decide (q.1=p.1):=ci.2 ⟨(E0 m).2 h,decide_eq_true rfl⟩
  have a:jK (wl x m l) p.1≠none:=by
   unfold jK;intro e;rw[List.getLast?_eq_none_iff]at e;rw[e]at c;cases c
  cases hl:jK (wl x m l) p.1 with
  |none=>exact absurd hl a
  |some q=>
   have d:=Oq hl;have f:=(E0 m).1 (Hh hl);have i:(p.1,q.2)∈l:=by rw[←d];exact f
   have g:=ER b (k:=p.1) (v:=p.2) (w:=q.2) h i;rw[Prod.ext d g.symm]
def cw(x:Hs):Nat→List Pr→Nat
 |0,_=>2
 |m+1,l=>2+((xq x (12-m) l).map (cw x m)).sum
structure Fr where
 sp:SliceV
 sk:SliceV
 n:Nat
 ps:List Pr
 ks:List (Nat×List Pr)
abbrev Pd(v:SliceV×SliceV):List Value:= [sv v.1,sv v.2]
theorem Qe(x:SliceV×SliceV):(Pd x).length=2∧0<2:=⟨rfl,by omega⟩
def Fr.raw(f:Fr):SliceV×SliceV:=(f.sp,f.sk)
def Fr.rem(x:Hs)(f:Fr):List Pr:=f.ps++f.ks.flatMap fun k=>wl x (f.n-1) k.2
def Fr.cost(x:Hs)(f:Fr):Nat:=1+(f.ks.map fun k=>cw x (f.n-1) k.2).sum
def B0(x:Hs)(l:List Fr):List Pr:=l.reverse.flatMap (Fr.rem x)
def Dt(x:Hs)(l:List Fr):Nat:=(l.map (Fr.cost x)).sum
theorem ye(x:Hs)(l:List Fr)(f:Fr):B0 x (l++ [f])=f.rem x++B0 x l:=by unfold B0;rw[List.reverse_append];rfl
theorem zH(x:Hs)(l:List Fr)(f:Fr):Dt x (l++ [f])=Dt x l+f.cost x:=by unfold Dt;rw[List.map_append,List.sum_append];simp
abbrev Kh(k:Nat×List Pr):Option Addr:=some ⟨k.1,0,none⟩
structure Fr.Ok(W G:Nat→Prop)(x:Hs)(h:ac)(f:Fr):Prop where
 p:Sl eJ 2 (fun y=>¬G y) h f.sp f.ps
 k:Sl rA 1 (fun y=>¬G y) h f.sk (f.ks.map Kh)
 pc:f.sp.len≤f.sp.cap
 kc:f.sk.len≤f.sk.cap
 t:∀k∈f.ks,TrieAt W x h (f.n-1) k.1 k.2∧k.2.length≤100000
 n0:f.ks≠[]→0<f.n
 n13:f.n≤13
theorem Fr.Ok.upd{W G M:Nat→Prop}{x:Hs}{h h':ac}{f:Fr}(o:f.Ok W G x h)(k:Upd M h h')(d:∀b,M b→W b∨h.size≤b)(c:∀b,M b→¬G b∨h.size≤b):f.Ok W G x h':=
 ⟨o.p.upd k c,o.k.upd k c,o.pc,o.kc,fun q a=>⟨TrieAt.updM k d (o.t q a).1,(o.t q a).2⟩,o.n0,o.n13⟩
theorem Fr.Ok.sub{W G G':Nat→Prop}{x:Hs}{h:ac}{f:Fr}(o:f.Ok W G x h)(d:∀b,G b→G' b):f.Ok W G' x h:=
 ⟨o.p.less fun b c=>.inl fun a=>c (d b a),o.k.less fun b c=>.inl fun a=>c (d b a),o.pc,o.kc,o.t,o.n0,o.n13⟩
abbrev UK(s:SliceV)(d:Int):Array Value:= #[sv s,.int .i64 d]
structure CurW(W G C:Nat→Prop)(x:Hs)(h:ac)(cb:Nat)(fs:List Fr):Prop where
 ex:∃s d,h[cb]? =some (.cells (UK s d) yL (0,0))∧OwnS Pd 2 dB C h s (fs.map Fr.raw)
 ok:∀f∈fs,f.Ok W G x h
 lt:∀b,(C b∨G b)→b<h.size
 dj:∀b,G b→¬C b∧b≠cb
 cc:¬C cb
 cw:(∀b,C b→W b)∧W cb
 lv:fs.Pairwise fun f g=>g.n<f.n
theorem CurW.upd{W G C M:Nat→Prop}{x:Hs}{h h':ac}{a:Nat}{i:List Fr}(c:CurW W G C x h a i)(k:Upd M h h')(p:∀b,M b→W b∨h.size≤b)(o:∀b,C b→¬M b)(m:∀b,G b→¬M b)(g:¬M a):CurW W G C x h' a i:=by
 obtain⟨s,d,t,j⟩:=c.ex;exact⟨⟨s,d,k.get t g,j.upd k o⟩,fun f n=>(c.ok f n).upd k p fun b e=>.inl fun q=>m b q e,fun b e=>Nat.lt_of_lt_of_le (c.lt b e) k.size,c.dj,c.cc,c.cw,c.lv⟩
theorem P1:∀{a:List Fr} {n:Nat},a.Pairwise (fun f g=>g.n<f.n)→(∀f∈a,f.n≤n)→a.length≤n+1
 | [],_,_,_=>bS _
 |f::a,n,b,hn=>by
  have b:=aB.1 b;have d:=hn f (au ..);rcases a with _|⟨g,a⟩
  ·simp
  ·have c:=b.1 g (au ..)
   have:=P1 (n:=f.n-1) b.2 fun g c=>by have:=b.1 g c;omega
   rw[ao];omega
theorem Nc{α:Type}{f:α→List Value}{c:Nat}{t:TypeId}{M:Nat→Prop}{h:ac}{s:SliceV}{P Q:List α}{x y:α}{j:Nat}{v:Value}(m:OwnS f c t M h s (P++x::Q))(F:j<c)(D:f y=(f x).set j v){a:Addr}(w:s.a=some a){i:Nat}(hi:i=P.length){G:ac→Prop}(E:∀h',OwnS f c t M h' s (P++y::Q)→Upd M h h'→G h'):
  Wr h (adr (adr a (i*c)) j)∧At (hset h (adr (adr a (i*c)) j) v) G:=by
 subst hi;have p:=m.ne;have d:=m.len;have g:=m.cap;rcases m.blk with H|⟨b,e,k,A,hc,C⟩
 ·rw[ad,ao]at d;omega
 rw[w]at k;cases k;have I:(P.flatMap f).length=P.length*c:=jC p P;rw[bL,aK]at hc;have J:=(p x).1;have B:adr (adr ⟨b,0,none⟩ (P.length*c)) j=⟨b,P.length*c+j,none⟩:=by rw[bW,bW,Nat.zero_add]
 rw[B];have n:P.length*c+j<(P.flatMap f++(f x++Q.flatMap f)++e).toArray.size:=by
  simp only[List.size_toArray,ad];omega
 refine⟨gn hc n,xP hc fun h' o u=>E h' ⟨by rw[d];simp,p,g,.inr ⟨b,e,w,A,?_,C⟩⟩ (u.mono fun z q=>.inl (by have q:z=b:=q;rw[q];exact A))⟩
 rw[o];congr 3
 rw[bL,aK,D];apply Array.toList_inj.1;rw[Array.toList_setIfInBounds];simp only[ax];rw[List.set_append_right _ _ (by omega),show P.length*c+j-(P.flatMap f).length=j by omega,List.set_append_left _ _ (by omega)]
theorem Hi{W:Nat→Prop}{x:Hs}{h:ac}{m:Nat}:∀{ks:List (Option Addr)} {ls:List (List Pr)},KidsAt W x h m ks ls→∃q:List (Nat×List Pr),ks=q.map Kh∧ls=q.map (·.2)∧∀k∈q,TrieAt W x h m k.1 k.2
 | [],[],_=>⟨[],rfl,rfl,fun k b=>by cases b⟩
 |_::_,[],h=>h.elim
 | [],_::_,h=>h.elim
 |k::ks,l::ls,b=>by
  obtain⟨⟨f,e,t⟩,d⟩:=b;obtain⟨q,g,i,c⟩:=Hi d;refine⟨(f,l)::q,by rw[e,g];rfl,by rw[i];rfl,fun k' a=>?_⟩
  rcases aq.1 a with rfl|a
  ·exact t
  ·exact c k' a
theorem GH{W:Nat→Prop}{x:Hs}{h:ac}{m b:Nat}{l:List Pr}(t:TrieAt W x h m b l)(hm:m≤13)(S:l.length≤100000){K:SliceV×SliceV→ac→Prop}
  (w:∀h' f,f.n=m→Fr.rem x f=wl x m l→f.cost x+1=cw x m l→f.Ok W (fun y=>h.size≤y∧y<h'.size) x h'→Upd No h h'→K f.raw h'):HC PG uZ [.pointer (some ⟨b,0,none⟩)] [.agg [.slice,.slice]] K h:=by
 refine HG (some ⟨b,0,none⟩) ?_;unfold CN dY uE Pe SV;refine bi fun i b1 k1=>?_
 have X:=TrieAt.upd0 k1 (TrieAt.less (W':=Pro W h i) Pro.hm t);obtain⟨d,n,sp,sk,R,ow,D,q,z,o,v,hlp,hq,J,Z,B,P⟩:∃d n sp sk R ow D,∃q:List (Nat×List Pr),i[b]? =some (.cells (eK d n sp sk R ow) be (0,0))∧Sl eJ 2 (Pro W h i) i sp D∧Sl rA 1 (Pro W h i) i sk (q.map Kh)∧D.length≤100000∧q.length≤32∧(D++q.flatMap fun k=>wl x (m-1) k.2)=wl x m l∧2+(q.map fun k=>cw x (m-1) k.2).sum=cw x m l∧(∀k∈q,TrieAt (Pro W h i) x i (m-1) k.1 k.2∧k.2.length≤100000)∧(q≠[]→0<m):=by
  cases m with
  |zero=>
   obtain⟨sp,sk,ow,z,o,v,_⟩:=BuckAt.ex X;exact⟨0,0,sp,sk,true,ow,l,[],z,o,v,S,by simp,by simp[wl],by simp[cw],fun k w=>(by cases w),fun h=>absurd rfl h⟩
  |succ m=>
   obtain⟨s,nd,G⟩:=X;have G:∀c,c<32→SlotIs (Pro W h i) x i m s c (part x (12-m) c l):=G;obtain⟨d,n,sp,sk,ow,z,bits,o,v,_⟩:=nd.ex;have L:=P5 (W:=Pro W h i) (x:=x) (h:=i) (m:=m) (lev:=12-m) (s:=s) (l:=l) 32 G;obtain⟨q,V,A,e3⟩:=Hi L;have A:xq x (12-m) l=q.map (·.2):=A
   have E:=Na G;have hsl:=GR x (12-m) l;have T:=AM (g:=s.k);have Y:q.length=(fm s.k 32).length:=by rw[V,cL]
   refine⟨d,n,sp,sk,false,ow,fm s.p 32,q,z,o,by rw[←V];exact v,by rw[E];omega,by omega,?_,?_,fun k w=>⟨e3 k w,?_⟩,fun _=>Nat.succ_pos _⟩
   ·rw[HN,E,A,List.flatMap_map];rfl
   ·show _=2+_
    rw[A,List.map_map];rfl
   ·have:k.2∈xq x (12-m) l:=by rw[A];exact List.mem_map.2 ⟨k,w,rfl⟩
    obtain⟨_,c,hc⟩:=Hc this;rw[hc];exact Nat.le_trans qI S
 refine xk z o (by omega) fun O h2 C j=>?_
 refine Sa (j.get0 z) (v.upd j fun _ h=>h.elim) (by rw[cL];omega) fun I h3 F u=>?_
 have b3:=u.get0 (j.get0 b1);have z1:=k1.size;have z2:=j.size;have z3:=u.size;have zb:=bo b1;refine cO (c:= [.slice none 0 0,.slice none 0 0]) (vs:= [sv O,sv I]) b3 rfl fun U Q p=>?_
 refine⟨O,vc Q 0,I,vc Q 1,?_⟩;have z4:=p.size;have N:Upd No h U:=((k1.tr j).tr u).own p (al _);refine w U ⟨O,I,m,D,q⟩ rfl J (by unfold Fr.cost;simp only;omega) ⟨?_,?_,C.cap,F.cap,fun k w=>⟨TrieAt.less (W:=Pro W h i) (fun y a=>.inl (.inl a)) (TrieAt.updM (M:=(· =h.size)) p (fun y a=>.inl (.inr (by have a:y=h.size:=a;omega))) (TrieAt.upd0 (j.tr u) (B k w).1)),(B k w).2⟩,P,hm⟩ N
 ·exact(((C.upd u fun _ _ h=>h).within).upd p fun y a e=>by have e:y=h.size:=e;have:=a.1;omega).sl fun y a _ H=>H ⟨by have:=a.1;omega,by have:=a.2;omega⟩
 ·exact(F.within.upd p fun y a e=>by have e:y=h.size:=e;have:=a.1;omega).sl fun y a _ H=>H ⟨by have:=a.1;omega,by have:=a.2;omega⟩
end Go.Proofs
