/- A part of the proof that the named laws of this program answer true, whatever the input. -/
import Derived.Test.YtncppacbfagpgaaGreatDoorPart4
open List renaming length_append→ac,length_nil→aJ,length_cons→al,length_eq_zero_iff→aw,append_nil→aL,nil_append→cz,take_append_drop→aK,length_take→aI,length_drop→aU,append_assoc→ar,mem_singleton→aF,length_singleton→aE,getElem?_eq_some_iff→bJ,getElem?_eq_getElem→ae,getElem_of_mem→bm,getElem?_append_left→bP,getElem?_append_right→aN
open Nat renaming eq_zero_or_pos→cF,le_refl→aj,add_sub_cancel_left→cM,sub_self→dP
namespace Go.Proofs
open Go Go.Lift
theorem xZ{M:Nat→Prop}{h:ad}{s:SliceV}{A U C V B:List (Pr)}(F:OwnS eu 2 ao M h s (A++(U++(C++(V++B)))))(hn:s.len≤1000000000)(f:U.length=V.length){a b:Nat}(e:a=A.length)(m:b=A.length+U.length+C.length){n:Nat}(z:n=U.length){k:Value}{K:Unit→ad→Prop}
  (Q:∀h',OwnS eu 2 ao M h' s (A++(V++(C++(U++B))))→Upd M h h'→K () h'):HC PG dT [.slice s.a s.len s.cap,.int .i64 a,.int .i64 b,.int .i64 n,k] [] K h:=by
 subst e m z;refine qH s A.length (A.length+U.length+C.length:Nat) U.length k ?_;unfold kY bE bX is gD;have d:=F.len;simp only[ac]at d;refine LoopP.ghost (fun(g:(List (Pr)×List (Pr))×List (Pr)×List (Pr)) (t:Int) h'=>t=(g.1.1.length:Int)∧U=g.1.1++g.1.2∧V=g.2.1++g.2.2∧g.1.1.length=g.2.1.length∧OwnS eu 2 ao M h' s (A++(g.2.1++(g.1.2++(C++(g.1.1++(g.2.2++B))))))∧Upd M h h') (fun g=>g.1.2.length) (([],U),[],V)
  ⟨rfl,rfl,rfl,rfl,F,Upd.refl _ _⟩ ?_
 rintro I ⟨⟨U1,U2⟩,V1,V2⟩ t h' ⟨H,P,J,G,c,E⟩ T;simp only at H P J G c;subst H P J;simp only[ac]at f d;refine ax (fun p=>?_) fun y=>?_
 ·simp only[ac]at p
  match U2,V2 with
  | [],_=>simp only[aJ]at p;omega
  |_::_,[]=>simp only[aJ,al]at f;omega
  |u::U2,v::V2=>
   simp only[al]at f d;simp only[ac,al];have x:IntKind.wrap .i64 (((A.length+(U1.length+(U2.length+1))+C.length:Nat):Int)+(U1.length:Int))=((A.length+(U1.length+(U2.length+1))+C.length+U1.length:Nat):Int):=by rw[dI (by omega)];omega
   have D:IntKind.wrap .i64 ((A.length:Int)+(U1.length:Int))=((A.length+U1.length:Nat):Int):=by rw[dI (by omega)];omega
   rw[x,D];have X:A++(V1++((u::U2)++(C++(U1++((v::V2)++B)))))=(A++V1)++u::(U2++(C++(U1++(v::V2++B)))):=by simp
   have Y:(A++V1)++u::(U2++(C++(U1++(v::V2++B))))=((A++V1)++u::(U2++(C++U1)))++v::(V2++B):=by simp
   have W:(A++V1)++v::(U2++(C++(U1++(v::V2++B))))=((A++V1)++v::(U2++(C++U1)))++v::(V2++B):=by simp
   have Z:((A++V1)++v::(U2++(C++U1)))++u::(V2++B)=A++((V1++ [v])++(U2++(C++((U1++ [u])++(V2++B))))):=by simp
   rw[X]at c;obtain⟨a,e,o⟩:=fK c (i:=A.length+U1.length) (by rw[ac];omega);have j:=c;rw[Y]at j;obtain⟨a',q,w⟩:=fK j (i:=A.length+(U1.length+(U2.length+1))+C.length+U1.length) (by simp only[ac,al];omega);rw[e]at q;cases q;refine⟨⟨by omega,by omega⟩,a,e,v.1,w 0 _ rfl,v.2,w 1 _ rfl,⟨by omega,by omega⟩,a,e,u.1,o 0 _ rfl,u.2,o 1 _ rfl,⟨by omega,by omega⟩,a,e,?_⟩
   refine mK c v e (by rw[ac];omega) fun h2 L S=>⟨⟨by omega,by omega⟩,a,e,?_⟩
   rw[W]at L;refine mK L u e (by first|omega|(simp;done)|(simp;omega)) fun h3 O R=>?_
   rw[Z]at O;rw[ga (n:=U1.length+(U2.length+1)) (by omega) (by omega)];exact T ((U1++ [u],U2),V1++ [v],V2) _ _ ⟨by simp,by simp,by simp,by simp[G],O,(E.trans S fun b m=>.inl m).trans R fun b m=>.inl m⟩ (by simp)
 ·simp only[ac]at y
  have N:U2= []:=aw.1 (by omega);have h2:V2= []:=aw.1 (by rw[N,aJ]at f;omega);subst N h2;simp only[aL,cz]at c Q;exact Q h' c E
theorem SI{M:Nat→Prop}{h:ad}{s:SliceV}{A U V B:List (Pr)}(P:OwnS eu 2 ao M h s (A++(U++(V++B))))(O:s.len≤1000000000)(S:0<U.length)(X:0<V.length){a m b:Nat}(W:a=A.length)(hm:m=A.length+U.length)(o:b=A.length+U.length+V.length){v:Value}{K:Unit→ad→Prop}
  (Z:∀h',OwnS eu 2 ao M h' s (A++(V++(U++B)))→Upd M h h'→K () h'):HC PG iy [.slice s.a s.len s.cap,.int .i64 a,.int .i64 m,.int .i64 b,v] [] K h:=by
 subst W hm o;refine sO s A.length (A.length+U.length:Nat) (A.length+U.length+V.length:Nat) v ?_;unfold mf;have z:=P.len;simp only[ac]at z;have D:IntKind.wrap .i64 (((A.length+U.length:Nat):Int)-(A.length:Int))=(U.length:Int):=by rw[dI (by omega)];omega
 have E:IntKind.wrap .i64 (((A.length+U.length+V.length:Nat):Int)-((A.length+U.length:Nat):Int))=(V.length:Int):=by rw[dI (by omega)];omega
 rw[D,E];refine LoopP.ghost (fun(g:(List (Pr)×List (Pr))×List (Pr)×List (Pr)) (t:Int×Int) h'=>t.1=(g.1.2.length:Int)∧t.2=(g.2.1.length:Int)∧0<g.1.2.length∧0<g.2.1.length∧A.length+U.length=g.1.1.length+g.1.2.length∧g.1.1++(g.2.1++(g.1.2++g.2.2))=A++(V++(U++B))∧OwnS eu 2 ao M h' s (g.1.1++(g.1.2++(g.2.1++g.2.2)))∧Upd M h h') (fun g=>g.1.2.length+g.2.1.length) ((A,U),V,B)
  ⟨rfl,rfl,S,X,rfl,rfl,P,Upd.refl _ _⟩ ?_
 rintro I ⟨⟨A',U'⟩,V',f⟩ ⟨ti,tj⟩ h' ⟨D,E,L,G,k,e,c,F⟩ Q;simp only at D E L G k e c;subst D E;have d:=c.len;simp only[ac]at d;have N:((A.length+U.length:Nat):Int)=((A'.length+U'.length:Nat):Int):=by omega
 rw[N];have R:IntKind.wrap .i64 (((A'.length+U'.length:Nat):Int)-(U'.length:Int))=(A'.length:Int):=by rw[dI (by omega)];omega
 simp only;rw[R];refine CondP.intro (fun i=>?_) fun w=>?_
 ·have i:(U'.length:Int)≠(V'.length:Int):=by simpa using i
  refine ax (fun C=>?_) fun T=>?_
  ·
   have C:V'.length<U'.length:=by omega
   obtain⟨U1,U2,rfl,j⟩:∃U1 U2,U'=U1++U2∧U1.length=V'.length:=⟨U'.take V'.length,U'.drop V'.length,(aK ..).symm,by rw[aI];omega⟩
   simp only[ac]at C d k i R;have y:A'++((U1++U2)++(V'++f))=A'++(U1++(U2++(V'++f))):=by simp
   have Y:A'++(V'++(U2++(U1++f)))=(A'++V')++(U2++(U1++f)):=by simp
   rw[y]at c;refine xZ c O j rfl (b:=A'.length+(U1++U2).length) (by simp only[ac];omega) (n:=V'.length) j.symm fun h2 p u=>?_
   rw[Y]at p;have q:IntKind.wrap .i64 (((U1++U2).length:Int)-(V'.length:Int))=(U2.length:Int):=by rw[ac,dI (by omega)];omega
   rw[q];refine Q ((A'++V',U2),U1,f) _ _ ⟨rfl,by simp only;omega,by simp only;omega,by simp only;omega,by simp only[ac];omega,?_,p,F.trans u fun b o=>.inl o⟩ (by simp only[ac];omega)
   rw[←e];simp
  ·have J:U'.length<V'.length:=by omega
   obtain⟨V1,V2,rfl,j⟩:∃V1 V2,V'=V1++V2∧V2.length=U'.length:=⟨V'.take (V'.length-U'.length),V'.drop (V'.length-U'.length),(aK ..).symm,by rw[aU];omega⟩
   simp only[ac]at J d i;have q:IntKind.wrap .i64 ((IntKind.wrap .i64 (((A'.length+U'.length:Nat):Int)+((V1++V2).length:Int)))-(U'.length:Int))=((A'.length+U'.length+V1.length:Nat):Int):=by
    rw[ac,dI (x:=((A'.length+U'.length:Nat):Int)+((V1.length+V2.length:Nat):Int)) (by omega),dI (by omega)];omega
   rw[q];have y:A'++(U'++((V1++V2)++f))=A'++(U'++(V1++(V2++f))):=by simp
   rw[y]at c;refine xZ c O j.symm rfl rfl rfl fun h2 p u=>?_
   have H:IntKind.wrap .i64 (((V1++V2).length:Int)-(U'.length:Int))=(V1.length:Int):=by rw[ac,dI (by omega)];omega
   rw[H];refine Q ((A',V2),V1,U'++f) _ _ ⟨by simp only;omega,rfl,by simp only;omega,by simp only;omega,by simp only;omega,?_,p,F.trans u fun b o=>.inl o⟩ (by simp only[ac];omega)
   rw[←e];simp
 ·have w:(U'.length:Int)=(V'.length:Int):=by simpa using w
  have y:A'++(U'++(V'++f))=A'++(U'++([]++(V'++f))):=by simp
  rw[y]at c;refine xZ c O (by omega) rfl (b:=A'.length+U'.length) (by simp) rfl fun h2 p u=>?_
  rw[cz,e]at p;exact Z h2 p (F.trans u fun b o=>.inl o)
theorem Hf{lt:Pr→Pr→Bool}(w:WO lt){M:Nat→Prop}{Iv:ad→Prop}{v:Value}(hc:Cmp lt eu M Iv v){h:ad}{s:SliceV}{A S B:List (Pr)}(ho:OwnS eu 2 ao M h s (A++(S++B)))(hi:Iv h)(hn:s.len≤1000000000){a b:Nat}(c:a=A.length)(H:b=A.length+S.length){K:Unit→ad→Prop}
  (hk:∀h' R,OwnS eu 2 ao M h' s (A++(R++B))→St lt S R→Upd M h h'→K () h'):HC PG eD [.slice s.a s.len s.cap,.int .i64 a,.int .i64 b,v] [] K h:=by
 subst c H;refine oV s A.length (A.length+S.length:Nat) v ?_;unfold jM bE bX ji ay is rV gD;have j:=ho.len;simp only[ac]at j;have ea:IntKind.wrap .i64 ((A.length:Int)+1)=((A.length+1:Nat):Int):=by rw[dI (by omega)];omega
 rw[ea];refine LoopP.ghost (fun(g:List (Pr)×List (Pr)×List (Pr)) (t:Int) h'=>t=((A.length+max 1 g.1.length:Nat):Int)∧S=g.1++g.2.2∧(g.1= []→g.2.2= [])∧St lt g.1 g.2.1∧OwnS eu 2 ao M h' s (A++(g.2.1++(g.2.2++B)))∧Upd M h h') (fun g=>g.2.2.length) (S.take 1,S.take 1,S.drop 1)
  ⟨?_,(aK ..).symm,fun e=>?_,⟨Eqf.rfl _,?_⟩,by rw[←ar (S.take 1),aK];exact ho,Upd.refl _ _⟩ ?_
 ·simp only[aI];omega
 ·have:=congrArg List.length e
  simp only[aI,aJ]at this;exact aw.1 (by simp only[aU];omega)
 ·match S with
  | []=>exact Srt.nil
  |x::S=>exact Srt.one x
 rintro I ⟨S1,R1,T⟩ t h' ⟨N,Q,k,m,o,hu⟩ hI;simp only at N Q k m o;subst N Q;simp only[ac]at j;have hR1:=m.eqf.len;refine ax (fun D=>?_) fun hge=>?_
 ·simp only[ac]at D
  have W:S1≠[]:=fun e=>by
   have:=k e;subst e;subst this;simp only[aJ]at D;omega
  have hS1l:0<S1.length:=List.length_pos_iff.2 W;match T with
  | []=>simp only[aJ]at D;omega
  |x::T=>
   have P:A.length+max 1 S1.length=A.length+S1.length:=by omega
   rw[P];refine LoopP.ghost (fun(g:List (Pr)×List (Pr)) (t:Int) h2=>t=((A.length+g.1.length:Nat):Int)∧R1=g.1++g.2∧(∀y∈g.2,lt x y=true)∧OwnS eu 2 ao M h2 s (A++(g.1++(x::(g.2++(T++B)))))∧Upd M h h2) (fun g=>g.1.length) (R1,[])
    ⟨by simp only;omega,by simp,fun y n=>(by cases n),by simpa using o,hu⟩ ?_
   rintro I2 ⟨L,G⟩ t2 h2 ⟨N,Q,hG,d,C⟩ X;simp only at N Q hG d;subst N Q;simp only[ac]at hR1;simp only[al]at j;refine Join.intro (fun t h3=>Upd M h h3∧OwnS eu 2 ao M h3 s (A++(L++(x::(G++(T++B)))))∧(t=true→∃L' y,L=L'++ [y]∧lt x y=true)∧(t=false→∀y∈L,lt x y=false)) (fun Rj F=>?_) ?_
   ·refine ax (fun hgt=>?_) fun hle=>?_
    ·rcases BR L with rfl|⟨L',y,rfl⟩
     ·simp only[aJ]at hgt;omega
     have p:(L'++ [y]).length=L'.length+1:=by simp
     have J:IntKind.wrap .i64 (((A.length+(L'++ [y]).length:Nat):Int)-1)=((A.length+L'.length:Nat):Int):=by rw[p,dI (by omega)];omega
     rw[J];have O:A++((L'++ [y])++(x::(G++(T++B))))=(A++L')++y::(x::(G++(T++B))):=by simp
     have f2:A++((L'++ [y])++(x::(G++(T++B))))=(A++(L'++ [y]))++x::(G++(T++B)):=by simp
     have o3:=d;have E:=d;rw[O]at o3;rw[f2]at E;obtain⟨a,c,n⟩:=fK o3 (i:=A.length+L'.length) (by first|omega|(simp;done)|(simp;omega))
     obtain⟨a',f,hx⟩:=fK E (i:=A.length+(L'++ [y]).length) (by first|omega|(simp;done)|(simp;omega))
     rw[c]at f;cases f;refine⟨⟨by omega,by omega⟩,a,c,x.1,hx 0 _ rfl,x.2,hx 1 _ rfl,⟨by omega,by omega⟩,a,c,y.1,n 0 _ rfl,y.2,n 1 _ rfl,?_⟩
     refine hc.call x y (hc.step C hi) fun h5 e V he=>?_
     rw[he];have Y:=d.upd V fun _ _ h=>h
     refine F _ _ ⟨C.tr V.wide,Y,fun h=>⟨L',y,rfl,h⟩,fun h z u=>?_⟩
     have hs:=m.srt.left;rcases List.mem_append.1 u with u|u
     ·exact w.ntr x y z h (hs.cross z u y (aF.2 rfl))
     ·rw[aF.1 u];exact h
    ·have hL:L= []:=aw.1 (by omega)
     exact F _ _ ⟨C,d,fun h=>(by cases h),fun _ y n=>(by rw[hL]at n;cases n)⟩
   ·rintro t3 h3 ⟨U,q,ht,hf⟩
    cases t3 with
    |true=>
     obtain⟨L',y,rfl,Z⟩:=ht rfl;have p:(L'++ [y]).length=L'.length+1:=by simp
     refine au.2 ?_;have J:IntKind.wrap .i64 (((A.length+(L'++ [y]).length:Nat):Int)-1)=((A.length+L'.length:Nat):Int):=by rw[p,dI (by omega)];omega
     rw[J];have O:A++((L'++ [y])++(x::(G++(T++B))))=(A++L')++y::(x::(G++(T++B))):=by simp
     have f2:(A++L')++y::(x::(G++(T++B)))=(A++(L'++ [y]))++x::(G++(T++B)):=by simp
     have f3:(A++(L'++ [y]))++y::(G++(T++B))=(A++L')++y::(y::(G++(T++B))):=by simp
     have f4:(A++L')++x::(y::(G++(T++B)))=A++(L'++(x::((y::G)++(T++B)))):=by simp
     rw[O]at q;have E:=q;rw[f2]at E;obtain⟨a,c,n⟩:=fK q (i:=A.length+L'.length) (by first|omega|(simp;done)|(simp;omega))
     obtain⟨a',f,hx⟩:=fK E (i:=A.length+(L'++ [y]).length) (by first|omega|(simp;done)|(simp;omega))
     rw[c]at f;cases f;refine⟨⟨by omega,by omega⟩,a,c,y.1,n 0 _ rfl,y.2,n 1 _ rfl,⟨by omega,by omega⟩,a,c,x.1,hx 0 _ rfl,x.2,hx 1 _ rfl,⟨by omega,by omega⟩,a,c,?_⟩
     refine mK E y c (by first|omega|(simp;done)|(simp;omega)) fun h5 o5 V=>⟨⟨by omega,by omega⟩,a,c,?_⟩
     rw[f3]at o5;refine mK o5 x c (by first|omega|(simp;done)|(simp;omega)) fun h6 o6 k6=>?_
     rw[f4]at o6;refine X (L',y::G) _ _ ⟨rfl,by simp,fun z u=>?_,o6,(U.trans V fun b H=>.inl H).trans k6 fun b H=>.inl H⟩ (by simp only[p];omega)
     rcases List.mem_cons.1 u with rfl|u
     ·exact Z
     ·exact hG z u
    |false=>
     refine ag.2 ?_;have J:IntKind.wrap .i64 (((A.length+S1.length:Nat):Int)+1)=((A.length+max 1 (S1.length+1):Nat):Int):=by rw[dI (by omega)];omega
     rw[J];refine hI (S1++ [x],L++x::G,T) _ _ ⟨by simp,by simp,fun e=>(by simp at e),N3 w m (hf rfl) hG,?_,U⟩ (by simp)
     have O:A++((L++x::G)++(T++B))=A++(L++(x::(G++(T++B)))):=by simp
     rw[O];exact q
 ·simp only[ac]at hge
  have hT:T= []:=by
   rcases cF S1.length with h0|h0
   ·exact k (aw.1 h0)
   ·exact aw.1 (by omega)
  subst hT;rw[cz]at o;rw[aL]at hk;exact hk h' R1 o m hu
theorem Ea{lt:Pr→Pr→Bool}(w:WO lt){M:Nat→Prop}{Iv:ad→Prop}{cmp:Value}(hc:Cmp lt eu M Iv cmp){s:SliceV}(hn:s.len≤1000000000):∀(n:Nat) {h:ad} {A U V B:List (Pr)},U.length+V.length≤n→OwnS eu 2 ao M h s (A++(U++(V++B)))→Iv h→0<U.length→0<V.length→Srt lt U→Srt lt V→∀{a m b:Nat},a=A.length→m=A.length+U.length→b=A.length+U.length+V.length→∀{K:Unit→ad→Prop},
  (∀h' R,OwnS eu 2 ao M h' s (A++(R++B))→St lt (U++V) R→Upd M h h'→K () h')→HC PG di [.slice s.a s.len s.cap,.int .i64 a,.int .i64 m,.int .i64 b,cmp] [] K h:=by
 intro n;induction n with
 |zero=>intro h A U V B hl _ _ hU;omega
 |succ n ih=>
  intro h A U V B hl ho hi hU hV sU sV a m b ha hm N K hk;refine rC s a m b cmp ?_;unfold lD bE bX ji ay is rV gD;have z:=ho.len;simp only[ac]at z;have e1:IntKind.wrap .i64 ((m:Int)-(a:Int))=(U.length:Int):=by rw[dI (by omega)];omega
  have e2:IntKind.wrap .i64 ((b:Int)-(m:Int))=(V.length:Int):=by rw[dI (by omega)];omega
  rw[e1,e2];refine CondP.intro (fun J=>?_) fun hmore=>?_
  ·have J:U.length=1:=by have:=eq_of_beq J;omega
   match U,J with
   | [u],_=>
   simp only[aE]at z hm N;refine LoopP.ghost (fun(g:Nat×Nat) (t:Int×Int) h'=>t.1=(g.1:Int)∧t.2=(g.2:Int)∧m≤g.1∧g.1≤g.2∧g.2≤b∧(∀q x,V[q]? =some x→m+q<g.1→lt x u=true)∧(∀q x,V[q]? =some x→g.2≤m+q→lt x u=false)∧OwnS eu 2 ao M h' s (A++([u]++(V++B)))∧Upd M h h') (fun g=>g.2-g.1) (m,b)
    ⟨rfl,rfl,aj _,by simp only;omega,aj _,fun q x D h=>(by simp only at h;omega),fun q x D h=>(by have:=(bJ.1 D).1;simp only at h;omega),ho,Upd.refl _ _⟩ ?_
   rintro I ⟨i,j⟩ ⟨ti,tj⟩ h' ⟨e1,e2,hmi,G,hjb,L,H,F,hu⟩ hI;simp only at e1 e2 hmi G hjb L H;subst e1 e2;refine ax (fun O=>?_) fun hge=>?_
   ·have O:i<j:=by have:(i:Int)<(j:Int):=O;omega
    refine⟨by decide,?_⟩;simp only[Bd];rw[xn (by omega)];have Y:(i+j)/2-m<V.length:=by omega
    have hk0:(i+j)/2=A.length+1+((i+j)/2-m):=by omega
    obtain⟨W,f,hx⟩:=uw F (i:=(i+j)/2) (x:=V[(i+j)/2-m]) (OD (U:= [u]) (k:=(i+j)/2-m) (by simp only[aE];omega) (ae Y));obtain⟨a2,C,hy⟩:=fK (P:=A) (x:=u) (Q:=V++B) F ha;rw[f]at C;cases C;have hVk:V[(i+j)/2-m]? =some V[(i+j)/2-m]:=ae Y;generalize V[(i+j)/2-m]=x at hx hVk;refine⟨⟨by omega,by omega⟩,W,f,x.1,hx 0 _ rfl,x.2,hx 1 _ rfl,⟨by omega,by omega⟩,W,f,u.1,hy 0 _ rfl,u.2,hy 1 _ rfl,?_⟩
    refine hc.call x u (hc.step hu hi) fun T e k5 he=>?_
    rw[he];have Z:=F.upd k5 fun _ _ h=>h
    have X:=hu.tr k5.wide;cases hxu:lt x u with
    |true=>
     refine au.2 ?_;have ew:IntKind.wrap .i64 ((((i+j)/2:Nat):Int)+1)=(((i+j)/2+1:Nat):Int):=by rw[dI (by omega)];omega
     rw[ew];refine hI ((i+j)/2+1,j) _ _ ⟨rfl,rfl,by simp only;omega,by simp only;omega,hjb,fun q y D hqi=>?_,H,Z,X⟩ (by simp only;omega)
     have hle:=kO w sV (i:=q) (j:=(i+j)/2-m) (by simp only at hqi;omega) D hVk;cases hyu:lt y u with
     |true=>rfl
     |false=>rw[w.ntr _ _ _ hle hyu]at hxu;cases hxu
    |false=>
     refine ag.2 ?_;refine hI (i,(i+j)/2) _ _ ⟨rfl,rfl,hmi,by simp only;omega,by simp only;omega,L,fun q y D hqi=>?_,Z,X⟩ (by simp only;omega)
     have hle:=kO w sV (i:=(i+j)/2-m) (j:=q) (by simp only at hqi;omega) hVk D;exact w.ntr _ _ _ hle hxu
   ·have G:i=j:=by have:¬(i:Int)<(j:Int):=hge;omega
    subst G;obtain⟨V1,V2,rfl,hV1⟩:∃V1 V2,V=V1++V2∧V1.length=i-m:=⟨V.take (i-m),V.drop (i-m),(aK ..).symm,by rw[aI];omega⟩
    simp only[ac]at z N;have lo1:∀x∈V1,lt x u=true:=fun x hx=>by
     obtain⟨q,D,e⟩:=bm hx;exact L q x (by rw[bP D,ae D,e]) (by omega)
    have hi1:∀x∈V2,lt x u=false:=fun x hx=>by
     obtain⟨q,D,e⟩:=bm hx;exact H (V1.length+q) x (by rw[aN (by omega),cM,ae D,e]) (by omega)
    have hst:=Ec w sV lo1 hi1;have f0:A++([u]++((V1++V2)++B))=A++([]++(u::(V1++(V2++B)))):=by simp
    rw[f0]at F;have ew:IntKind.wrap .i64 ((i:Int)-1)=((A.length+V1.length:Nat):Int):=by rw[dI (by omega)];omega
    rw[ew];refine LoopP.ghost (fun(g:List (Pr)×List (Pr)) (t:Int) h2=>t=((A.length+g.1.length:Nat):Int)∧V1=g.1++g.2∧OwnS eu 2 ao M h2 s (A++(g.1++(u::(g.2++(V2++B)))))∧Upd M h h2) (fun g=>g.2.length) ([],V1)
     ⟨by simp[ha],rfl,F,hu⟩ ?_
    rintro I2 ⟨G1,E⟩ t2 h2 ⟨e1,e2,o,S⟩ hI2;simp only at e1 e2 o;subst e1 e2;simp only[ac]at z N ew⊢;refine ax (fun O=>?_) fun hge=>?_
    ·match E with
     | []=>simp only[aJ]at O;omega
     |g::E=>
      simp only[al]at z;have ew1:IntKind.wrap .i64 (((A.length+G1.length:Nat):Int)+1)=((A.length+G1.length+1:Nat):Int):=by rw[dI (by omega)];omega
      rw[ew1];have f1:A++(G1++(u::((g::E)++(V2++B))))=(A++G1)++u::(g::(E++(V2++B))):=by simp
      have f2:(A++G1)++u::(g::(E++(V2++B)))=(A++(G1++ [u]))++g::(E++(V2++B)):=by simp
      have f3:(A++G1)++g::(g::(E++(V2++B)))=(A++(G1++ [g]))++g::(E++(V2++B)):=by simp
      have f4:(A++(G1++ [g]))++u::(E++(V2++B))=A++((G1++ [g])++(u::(E++(V2++B)))):=by simp
      rw[f1]at o;have o3:=o;rw[f2]at o3;obtain⟨W,f,hy⟩:=fK o3 (i:=A.length+G1.length+1) (by first|omega|(simp;done)|(simp;omega))
      obtain⟨a2,C,hx⟩:=fK o (i:=A.length+G1.length) (by first|omega|(simp;done)|(simp;omega))
      rw[f]at C;cases C;refine⟨⟨by omega,by omega⟩,W,f,g.1,hy 0 _ rfl,g.2,hy 1 _ rfl,⟨by omega,by omega⟩,W,f,u.1,hx 0 _ rfl,u.2,hx 1 _ rfl,⟨by omega,by omega⟩,W,f,?_⟩
      refine mK o g f (by first|omega|(simp;done)|(simp;omega)) fun T o5 k5=>⟨⟨by omega,by omega⟩,W,f,?_⟩
      rw[f3]at o5;refine mK o5 u f (by first|omega|(simp;done)|(simp;omega)) fun h6 o6 k6=>?_
      rw[f4]at o6;exact hI2 (G1++ [g],E) _ _ ⟨by simp;omega,by simp,o6,(S.trans k5 fun b N=>.inl N).trans k6 fun b N=>.inl N⟩ (by simp)
    ·have hG:E= []:=aw.1 (by omega)
     subst hG;simp only[aL,cz]at o hst hk;refine hk h2 (G1++u::V2) ?_ hst S;have f1:A++((G1++u::V2)++B)=A++(G1++(u::(V2++B))):=by simp
     rw[f1];exact o
  refine CondP.intro (fun J=>?_) fun hmore2=>?_
  ·have J:V.length=1:=by have:=eq_of_beq J;omega
   match V,J with
   | [v],_=>
   simp only[aE]at z N;refine LoopP.ghost (fun(g:Nat×Nat) (t:Int×Int) h'=>t.1=(g.1:Int)∧t.2=(g.2:Int)∧a≤g.1∧g.1≤g.2∧g.2≤m∧(∀q x,U[q]? =some x→a+q<g.1→lt v x=false)∧(∀q x,U[q]? =some x→g.2≤a+q→lt v x=true)∧OwnS eu 2 ao M h' s (A++(U++([v]++B)))∧Upd M h h') (fun g=>g.2-g.1) (a,m)
    ⟨rfl,rfl,aj _,by simp only;omega,aj _,fun q x D h=>(by simp only at h;omega),fun q x D h=>(by have:=(bJ.1 D).1;simp only at h;omega),ho,Upd.refl _ _⟩ ?_
   rintro I ⟨i,j⟩ ⟨ti,tj⟩ h' ⟨e1,e2,hmi,G,hjb,L,H,F,hu⟩ hI;simp only at e1 e2 hmi G hjb L H;subst e1 e2;refine ax (fun O=>?_) fun hge=>?_
   ·have O:i<j:=by have:(i:Int)<(j:Int):=O;omega
    refine⟨by decide,?_⟩;simp only[Bd];rw[xn (by omega)];have Y:(i+j)/2-a<U.length:=by omega
    obtain⟨W,f,hx⟩:=uw F (i:=(i+j)/2) (x:=U[(i+j)/2-a]) (Iq (k:=(i+j)/2-a) (by omega) (ae Y));have f1:A++(U++([v]++B))=(A++U)++v::B:=by simp
    have o3:=F;rw[f1]at o3;obtain⟨a2,C,hy⟩:=fK o3 (i:=m) (by first|omega|(simp;done)|(simp;omega))
    rw[f]at C;cases C;have hVk:U[(i+j)/2-a]? =some U[(i+j)/2-a]:=ae Y;generalize U[(i+j)/2-a]=x at hx hVk;refine⟨⟨by omega,by omega⟩,W,f,v.1,hy 0 _ rfl,v.2,hy 1 _ rfl,⟨by omega,by omega⟩,W,f,x.1,hx 0 _ rfl,x.2,hx 1 _ rfl,?_⟩
    refine hc.call v x (hc.step hu hi) fun T e k5 he=>?_
    rw[he];have Z:=F.upd k5 fun _ _ h=>h
    have X:=hu.tr k5.wide;cases hxu:lt v x with
    |false=>
     refine au.2 ?_;have ew:IntKind.wrap .i64 ((((i+j)/2:Nat):Int)+1)=(((i+j)/2+1:Nat):Int):=by rw[dI (by omega)];omega
     rw[ew];refine hI ((i+j)/2+1,j) _ _ ⟨rfl,rfl,by simp only;omega,by simp only;omega,hjb,fun q y D hqi=>?_,H,Z,X⟩ (by simp only;omega)
     exact w.ntr _ _ _ hxu (kO w sU (i:=q) (j:=(i+j)/2-a) (by simp only at hqi;omega) D hVk)
    |true=>
     refine ag.2 ?_;refine hI (i,(i+j)/2) _ _ ⟨rfl,rfl,hmi,by simp only;omega,by simp only;omega,L,fun q y D hqi=>?_,Z,X⟩ (by simp only;omega)
     have hle:=kO w sU (i:=(i+j)/2-a) (j:=q) (by simp only at hqi;omega) hVk D;cases hvy:lt v y with
     |true=>rfl
     |false=>rw[w.ntr _ _ _ hvy hle]at hxu;cases hxu
   ·have G:i=j:=by have:¬(i:Int)<(j:Int):=hge;omega
    subst G;obtain⟨U1,U2,rfl,hU1⟩:∃U1 U2,U=U1++U2∧U1.length=i-a:=⟨U.take (i-a),U.drop (i-a),(aK ..).symm,by rw[aI];omega⟩
    simp only[ac]at z N hm;have lo1:∀x∈U1,lt v x=false:=fun x hx=>by
     obtain⟨q,D,e⟩:=bm hx;exact L q x (by rw[bP D,ae D,e]) (by omega)
    have hi1:∀x∈U2,lt v x=true:=fun x hx=>by
     obtain⟨q,D,e⟩:=bm hx;exact H (U1.length+q) x (by rw[aN (by omega),cM,ae D,e]) (by omega)
    have hst:=GX w sU lo1 hi1;have f0:A++((U1++U2)++([v]++B))=A++(U1++(U2++(v::([]++B)))):=by simp
    rw[f0]at F;refine LoopP.ghost (fun(g:List (Pr)×List (Pr)) (t:Int) h2=>t=((A.length+U1.length+g.1.length:Nat):Int)∧U2=g.1++g.2∧OwnS eu 2 ao M h2 s (A++(U1++(g.1++(v::(g.2++B)))))∧Upd M h h2) (fun g=>g.1.length) (U2,[])
     ⟨by simp only;omega,by simp,F,hu⟩ ?_
    rintro I2 ⟨G1,E⟩ t2 h2 ⟨e1,e2,o,S⟩ hI2;simp only at e1 e2 o;subst e1 e2;simp only[ac]at z N hm⊢;refine ax (fun hgt=>?_) fun hle=>?_
    ·rcases BR G1 with rfl|⟨G1',g,rfl⟩
     ·simp only[aJ]at hgt;omega
     simp only[ac,aE]at z N hm hgt⊢;have ew1:IntKind.wrap .i64 (((A.length+U1.length+(G1'.length+1):Nat):Int)-1)=((A.length+U1.length+G1'.length:Nat):Int):=by rw[dI (by omega)];omega
     rw[ew1];have f1:A++(U1++((G1'++ [g])++(v::(E++B))))=(A++(U1++(G1'++ [g])))++v::(E++B):=by simp
     have f2:(A++(U1++(G1'++ [g])))++v::(E++B)=(A++(U1++G1'))++g::(v::(E++B)):=by simp
     have f3:(A++(U1++(G1'++ [g])))++g::(E++B)=(A++(U1++G1'))++g::(g::(E++B)):=by simp
     have f4:(A++(U1++G1'))++v::(g::(E++B))=A++(U1++(G1'++(v::((g::E)++B)))):=by simp
     rw[f1]at o;have o3:=o;rw[f2]at o3;obtain⟨W,f,hy⟩:=fK o3 (i:=A.length+U1.length+G1'.length) (by first|omega|(simp;done)|(simp;omega))
     obtain⟨a2,C,hx⟩:=fK o (i:=A.length+U1.length+(G1'.length+1)) (by first|omega|(simp;done)|(simp;omega))
     rw[f]at C;cases C;refine⟨⟨by omega,by omega⟩,W,f,g.1,hy 0 _ rfl,g.2,hy 1 _ rfl,⟨by omega,by omega⟩,W,f,v.1,hx 0 _ rfl,v.2,hx 1 _ rfl,⟨by omega,by omega⟩,W,f,?_⟩
     refine mK o g f (by first|omega|(simp;done)|(simp;omega)) fun T o5 k5=>⟨⟨by omega,by omega⟩,W,f,?_⟩
     rw[f3]at o5;refine mK o5 v f (by first|omega|(simp;done)|(simp;omega)) fun h6 o6 k6=>?_
     rw[f4]at o6;exact hI2 (G1',g::E) _ _ ⟨rfl,by simp,o6,(S.trans k5 fun b N=>.inl N).trans k6 fun b N=>.inl N⟩ (by simp)
    ·have hG:G1= []:=aw.1 (by omega)
     subst hG;simp only[cz]at o hst hk;refine hk h2 (U1++v::E) ?_ hst S;have f1:A++((U1++v::E)++B)=A++(U1++(v::(E++B))):=by simp
     rw[f1];exact o
  have hU2:2≤U.length:=by
   have:(U.length:Int)≠1:=by simpa using hmore
   omega
  have hV2:2≤V.length:=by
   have:(V.length:Int)≠1:=by simpa using hmore2
   omega
  refine⟨by decide,?_⟩;simp only[Bd];rw[xn (i:=a) (j:=b) (by omega)];obtain⟨d,hmid⟩:∃d,(a+b)/2=d:=⟨_,rfl⟩;rw[hmid];have em:IntKind.wrap .i64 ((d:Int)+(m:Int))=((d+m:Nat):Int):=by rw[dI (by omega)];omega
  rw[em];have ep:IntKind.wrap .i64 (((d+m:Nat):Int)-1)=((d+m-1:Nat):Int):=by rw[dI (by omega)];omega
  rw[ep];refine Join.intro (fun t h'=>h'=h∧∃s0 r0:Nat,t=((s0:Int),(r0:Int))∧a≤s0∧s0≤r0∧r0≤m∧r0≤d∧d+m≤b+s0∧(r0=d∨r0=m)∧(s0=a∨s0+b=d+m)) (fun Rj hRj=>?_) ?_
  ·refine ax (fun hgt=>?_) fun hle=>?_
   ·have es:IntKind.wrap .i64 (((d+m:Nat):Int)-(b:Int))=((d+m-b:Nat):Int):=by rw[dI (by omega)];omega
    rw[es];exact hRj _ _ ⟨rfl,_,_,rfl,by omega,by omega,by omega,by omega,by omega,by omega,by omega⟩
   ·exact hRj _ _ ⟨rfl,_,_,rfl,by omega,by omega,by omega,by omega,by omega,by omega,by omega⟩
  rintro t h' ⟨rfl,s0,r0,rfl,hs0,hsr,hrm,hrd,hsb,hr0,hs00⟩;refine LoopP.ghost (fun(g:Nat×Nat) (t:Int×Int) h2=>t.1=(g.1:Int)∧t.2=(g.2:Int)∧s0≤g.1∧g.1≤g.2∧g.2≤r0∧(∀c x y,s0≤c→c<g.1→U[c-a]? =some x→V[d-1-c]? =some y→lt y x=false)∧(∀c x y,g.2≤c→c<r0→U[c-a]? =some x→V[d-1-c]? =some y→lt y x=true)∧OwnS eu 2 ao M h2 s (A++(U++(V++B)))∧Upd M h' h2) (fun g=>g.2-g.1) (s0,r0)
   ⟨rfl,rfl,aj _,hsr,aj _,fun c x y h1 h2=>(by simp only at h2;omega),fun c x y h1 h2=>(by simp only at h1;omega),ho,Upd.refl _ _⟩ ?_
  rintro I ⟨i,j⟩ ⟨ti,tj⟩ h2 ⟨e1,e2,hsi,G,hjr,L,H,o,S⟩ hI;simp only at e1 e2 hsi G hjr L H;subst e1 e2;refine ax (fun O=>?_) fun hge=>?_
  ·have O:i<j:=by have:(i:Int)<(j:Int):=O;omega
   refine⟨by decide,?_⟩;rw[xn (i:=i) (j:=j) (by omega)];obtain⟨c,hcc⟩:∃c,(i+j)/2=c:=⟨_,rfl⟩;rw[hcc];have hci:i≤c:=by omega
   have hcj:c<j:=by omega
   have eq:IntKind.wrap .i64 (((d+m-1:Nat):Int)-(c:Int))=((d+m-1-c:Nat):Int):=by rw[dI (by omega)];omega
   rw[eq];have Y:c-a<U.length:=by omega
   have hk2:d-1-c<V.length:=by omega
   obtain⟨W,f,hx⟩:=uw o (i:=c) (x:=U[c-a]) (Iq (k:=c-a) (by omega) (ae Y));obtain⟨a2,C,hy⟩:=uw o (i:=d+m-1-c) (x:=V[d-1-c]) (OD (k:=d-1-c) (by omega) (ae hk2));rw[f]at C;cases C;have hUc:U[c-a]? =some U[c-a]:=ae Y;have hVc:V[d-1-c]? =some V[d-1-c]:=ae hk2;generalize U[c-a]=x at hx hUc
   generalize V[d-1-c]=y at hy hVc;refine⟨⟨by omega,by omega⟩,W,f,y.1,hy 0 _ rfl,y.2,hy 1 _ rfl,⟨by omega,by omega⟩,W,f,x.1,hx 0 _ rfl,x.2,hx 1 _ rfl,?_⟩
   refine hc.call y x (hc.step S hi) fun T e k5 he=>?_
   rw[he];have Z:=o.upd k5 fun _ _ h=>h
   have X:=S.tr k5.wide;cases hyx:lt y x with
   |false=>
    refine au.2 ?_;have ew:IntKind.wrap .i64 ((c:Int)+1)=((c+1:Nat):Int):=by rw[dI (by omega)];omega
    rw[ew];refine hI (c+1,j) _ _ ⟨rfl,rfl,by simp only;omega,by simp only;omega,hjr,fun c' x' y' h1 h2 hx' hy'=>?_,H,Z,X⟩ (by simp only;omega)
    simp only at h2;have q1:=kO w sU (i:=c'-a) (j:=c-a) (by omega) hx' hUc;have q2:=kO w sV (i:=d-1-c) (j:=d-1-c') (by omega) hVc hy';exact w.ntr _ _ _ (w.ntr _ _ _ q2 hyx) q1
   |true=>
    refine ag.2 ?_;refine hI (i,c) _ _ ⟨rfl,rfl,hsi,hci,by simp only;omega,L,fun c' x' y' h1 h2 hx' hy'=>?_,Z,X⟩ (by simp only;omega)
    simp only at h1;have q1:=kO w sU (i:=c-a) (j:=c'-a) (by omega) hUc hx';have q2:=kO w sV (i:=d-1-c') (j:=d-1-c) (by omega) hy' hVc;cases hyx':lt y' x' with
    |true=>rfl
    |false=>rw[w.ntr _ _ _ (w.ntr _ _ _ q2 hyx') q1]at hyx;cases hyx
  have G:i=j:=by have:¬(i:Int)<(j:Int):=hge;omega
  subst G;have en:IntKind.wrap .i64 (((d+m:Nat):Int)-(i:Int))=((d+m-i:Nat):Int):=by rw[dI (by omega)];omega
  simp only;rw[en];obtain⟨U1,U2,eU,hU1⟩:∃U1 U2,U=U1++U2∧U1.length=i-a:=⟨U.take (i-a),U.drop (i-a),(aK ..).symm,by rw[aI];omega⟩
  obtain⟨V1,V2,eV,hV1⟩:∃V1 V2,V=V1++V2∧V1.length=d-i:=⟨V.take (d-i),V.drop (d-i),(aK ..).symm,by rw[aI];omega⟩
  have c1:∀v∈V1,∀u∈U2,lt v u=true:=fun v hv u hu=>by
   obtain⟨q,D,e⟩:=bm hv;obtain⟨p,hp,e'⟩:=bm hu;have hlU:U.length=U1.length+U2.length:=by rw[eU,ac]
   have n1:0<U2.length:=by omega
   have n2:d-1-i<V1.length:=by omega
   have gx:U[i-a]? =some (U2[0]'n1):=by rw[eU,aN (by omega),←hU1,dP,ae (by omega)]
   have gy:V[d-1-i]? =some (V1[d-1-i]'n2):=by rw[eV,bP (by omega),ae (by omega)]
   have hQ:=H i _ _ (aj _) (by omega) gx gy;have q1:=kO w sU (i:=i-a) (j:=i-a+p) (by omega) gx (by rw[eU,aN (by omega),←hU1,cM,ae hp,e']);have q2:=kO w sV (i:=q) (j:=d-1-i) (by omega) (by rw[eV,bP D,ae D,e]) gy;cases hvu:lt v u with
   |true=>rfl
   |false=>rw[w.ntr _ _ _ (w.ntr _ _ _ q2 hvu) q1]at hQ;cases hQ
  have c2:∀u∈U1,∀v∈V2,lt v u=false:=fun u hu v hv=>by
   obtain⟨p,hp,e'⟩:=bm hu;obtain⟨q,D,e⟩:=bm hv;have hlV:V.length=V1.length+V2.length:=by rw[eV,ac]
   have n1:i-1-a<U1.length:=by omega
   have n2:0<V2.length:=by omega
   have gx:U[i-1-a]? =some (U1[i-1-a]'n1):=by rw[eU,bP (by omega),ae (by omega)]
   have gy:V[d-1-(i-1)]? =some (V2[0]'n2):=by rw[eV,aN (by omega),show d-1-(i-1)-V1.length=0 by omega,ae (by omega)]
   have hQ:=L (i-1) _ _ (by omega) (by omega) gx gy;have q1:=kO w sU (i:=p) (j:=i-1-a) (by omega) (by rw[eU,bP hp,ae hp,e']) gx;have q2:=kO w sV (i:=d-i) (j:=d-i+q) (by omega) (by rw[eV,aN (by omega),hV1,dP,ae (by omega)]) (by rw[eV,aN (by omega),hV1,cM,ae D,e])
   have gy2:V[d-i]? =some (V2[0]'n2):=by rw[eV,aN (by omega),hV1,dP,ae (by omega)]
   exact w.ntr _ _ _ (w.ntr _ _ _ q2 hQ) q1
  subst eU eV;simp only[ac]at z hU hV hl hm N hU2 hV2;have sA1:=sU.left;have sA2:=sU.right;have sB1:=sV.left;have sB2:=sV.right;refine Join.intro (fun _ h3=>OwnS eu 2 ao M h3 s (A++(U1++(V1++(U2++(V2++B)))))∧Upd M h' h3) (fun Rj hRj=>?_) ?_
  ·have f1:A++((U1++U2)++((V1++V2)++B))=(A++U1)++(U2++(V1++(V2++B))):=by simp
   have f2:(A++U1)++(V1++(U2++(V2++B)))=A++(U1++(V1++(U2++(V2++B)))):=by simp
   refine Join.intro (fun t h3=>h3=h2∧(t=true↔0<U2.length∧0<V1.length)) (fun Rk hRk=>?_) ?_
   ·refine ax (fun h=>hRk _ _ ⟨rfl,?_⟩) fun h=>hRk _ _ ⟨rfl,⟨fun h=>(by cases h),fun h=>(by omega)⟩⟩
    rw[decide_eq_true_iff];constructor
    ·intro h;constructor<;>omega
    ·rintro⟨h1,h2⟩;omega
   ·rintro t h3 ⟨rfl,ht⟩
    cases t with
    |true=>
     obtain⟨p1,p2⟩:=ht.1 rfl;rw[f1]at o;refine au.2 (SI o hn p1 p2 (by rw[ac];omega) (by rw[ac];omega) (by rw[ac];omega) fun h4 o4 k4=>hRj _ _ ⟨?_,S.trans k4 fun b N=>.inl N⟩)
     rw[f2]at o4;exact o4
    |false=>
     have hz:U2= []∨V1= []:=by
      rcases cF U2.length with h|h
      ·exact .inl (aw.1 h)
      ·rcases cF V1.length with h3|h3
       ·exact .inr (aw.1 h3)
       ·have:=ht.2 ⟨h,h3⟩;cases this
     refine ag.2 (hRj _ _ ⟨?_,S⟩);rw[f1]at o;rw[←f2];rcases hz with rfl|rfl
     ·exact o
     ·exact o
  rintro _ h3 ⟨o3,k3⟩;refine Join.intro (fun _ h4=>∃R1,OwnS eu 2 ao M h4 s (A++(R1++(U2++(V2++B))))∧St lt (U1++V1) R1∧Upd M h' h4) (fun Rj hRj=>?_) ?_
  ·refine Join.intro (fun t h4=>h4=h3∧(t=true↔0<U1.length∧0<V1.length)) (fun Rk hRk=>?_) ?_
   ·refine ax (fun h=>hRk _ _ ⟨rfl,?_⟩) fun h=>hRk _ _ ⟨rfl,⟨fun h=>(by cases h),fun h=>(by omega)⟩⟩
    rw[decide_eq_true_iff];constructor
    ·intro h;constructor<;>omega
    ·rintro⟨h1,h2⟩;omega
   ·rintro t h4 ⟨rfl,ht⟩
    cases t with
    |true=>
     obtain⟨p1,p2⟩:=ht.1 rfl;refine au.2 (ih (by omega) o3 (hc.step k3 hi) p1 p2 sA1 sB1 ha (by omega) (by omega) fun T R1 o5 s5 k5=>hRj _ _ ⟨R1,o5,s5,k3.trans k5 fun b N=>.inl N⟩)
    |false=>
     refine ag.2 (hRj _ _ ⟨U1++V1,by simpa using o3,⟨Eqf.rfl _,?_⟩,k3⟩)
     rcases cF U1.length with h|h
     ·rw[aw.1 h];exact sB1
     ·rcases cF V1.length with T|T
      ·rw[aw.1 T,aL];exact sA1
      ·have:=ht.2 ⟨h,T⟩;cases this
  rintro _ h4 ⟨R1,o4,s1,k4⟩;have hR1:=s1.eqf.len;rw[ac]at hR1;have fin:∀{T:ad} {R2:List (Pr)},OwnS eu 2 ao M T s (A++(R1++(R2++B)))→St lt (U2++V2) R2→Upd M h' T→K () T:=fun{T R2} o5 s2 k5=>by
   refine hk T (R1++R2) ?_ (MD w sU sV c1 c2 s1 s2) k5;rw[ar];exact o5
  refine Join.intro (fun t T=>T=h4∧(t=true↔0<U2.length∧0<V2.length)) (fun Rk hRk=>?_) ?_
  ·refine ax (fun h=>hRk _ _ ⟨rfl,?_⟩) fun h=>hRk _ _ ⟨rfl,⟨fun h=>(by cases h),fun h=>(by omega)⟩⟩
   rw[decide_eq_true_iff];constructor
   ·intro h;constructor<;>omega
   ·rintro⟨h1,h2⟩;omega
  ·rintro t T ⟨rfl,ht⟩
   have f1:A++(R1++(U2++(V2++B)))=(A++R1)++(U2++(V2++B)):=by simp
   cases t with
   |true=>
    obtain⟨p1,p2⟩:=ht.1 rfl;rw[f1]at o4;refine au.2 (ih (by omega) o4 (hc.step k4 hi) p1 p2 sA2 sB2 (by rw[ac];omega) (by rw[ac];omega) (by rw[ac];omega) fun h6 R2 o6 s6 k6=>fin (R2:=R2) ?_ s6 (k4.trans k6 fun b N=>.inl N))
    rw[ar]at o6;exact o6
   |false=>
    refine ag.2 (fin (R2:=U2++V2) (by simpa using o4) ⟨Eqf.rfl _,?_⟩ k4);rcases cF U2.length with h|h
    ·rw[aw.1 h];exact sB2
    ·rcases cF V2.length with h6|h6
     ·rw[aw.1 h6,aL];exact sA2
     ·have:=ht.2 ⟨h,h6⟩;cases this
theorem Sw{lt:Pr→Pr→Bool}(w:WO lt){M:Nat→Prop}{Iv:ad→Prop}{f:Value}(hc:Cmp lt eu M Iv f){h:ad}{s:SliceV}{xs:List (Pr)}(ho:OwnS eu 2 ao M h s xs)(hi:Iv h)(hn:xs.length≤100000000){K:Unit→ad→Prop}
  (hk:∀h' R,OwnS eu 2 ao M h' s R→St lt xs R→Upd M h h'→K () h'):HC PG dE [.slice s.a s.len s.cap,f] [] K h:=by
 refine mC s f ?_;unfold g9;refine sN s (s.len:Int) f ?_;unfold me;have m:=ho.len;have i:s.len≤1000000000:=by omega
 refine LoopP.ghost (fun(g:List (Pr)×List (Pr)×List (Pr)) (t:Int×Int) h'=>t.1=(g.2.1.length:Int)∧t.2=((g.2.1.length+20:Nat):Int)∧xs=g.1++g.2.2∧Eqf lt g.1 g.2.1∧Full lt 20 g.2.1∧OwnS eu 2 ao M h' s (g.2.1++g.2.2)∧Upd M h h') (fun g=>g.2.2.length) ([],[],xs)
  ⟨rfl,rfl,rfl,Eqf.rfl _,Full.nil,ho,Upd.refl _ _⟩ ?_
 rintro I ⟨X,D,T⟩ ⟨ta,tb⟩ h1 ⟨k,P,J,d,j,H,k1⟩ hI;simp only at k P J d j H;subst k P J;have hXD:=d.len;simp only[ac]at m hn;refine ax (fun hle=>?_) fun Q=>?_
 ·obtain⟨S,W,rfl,hS⟩:∃S W,T=S++W∧S.length=20:=⟨T.take 20,T.drop 20,(aK ..).symm,by rw[aI];omega⟩
  refine Hf w hc H (hc.step k1 hi) i rfl (b:=D.length+20) (by omega) fun h2 R y q B=>?_
  have z:=q.eqf.len;simp only[ac]at m hn;have F:IntKind.wrap .i64 (((D.length+20:Nat):Int)+20)=(((D++R).length+20:Nat):Int):=by rw[ac,dI (by omega)];omega
  rw[F];refine hI (X++S,D++R,W) _ _ ⟨by simp only[ac];omega,rfl,by simp,d.app q.eqf,j.app (by omega) q.srt,by rw[ar];exact y,k1.trans B fun b n=>.inl n⟩ (by simp only[ac];omega)
 have V:D++T=D++(T++ []):=by simp
 rw[V]at H;refine Hf w hc H (hc.step k1 hi) i rfl (b:=s.len) (by omega) fun h2 R y q B=>?_
 have z:=q.eqf.len;rw[aL]at y;have v:Eqf lt (X++T) (D++R):=d.app q.eqf;have L:Runs lt 20 (D++R):=j R (.last R (by omega) q.srt);have B:Upd M h h2:=k1.trans B fun b n=>.inl n
 generalize D++R=ys at y v L;generalize X++T=zs at v hk;have c:s.len=ys.length:=y.len;clear hI d j H V Q z;refine LoopP.ghost (fun(g:Nat×List (Pr)) (t:Int) h'=>t=(g.1:Int)∧0<g.1∧g.1≤200000000∧Runs lt g.1 g.2∧Eqf lt zs g.2∧OwnS eu 2 ao M h' s g.2∧Upd M h h') (fun g=>s.len-g.1) (20,ys)
  ⟨rfl,by simp,by simp,L,v,y,B⟩ ?_
 rintro I2 ⟨a,ys⟩ t h3 ⟨k,hb0,hb1,hr,o,U,k3⟩ Z;simp only at k hb0 hb1 hr o U;subst k;have c:s.len=ys.length:=U.len;refine ax (fun hlt=>?_) fun hge=>?_
 ·have hlt:a<s.len:=by omega
  have e0:IntKind.wrap .i64 (2*(a:Int))=((2*a:Nat):Int):=by rw[dI (by omega)];omega
  rw[e0];refine LoopP.ghost (fun(g:List (Pr)×List (Pr)×List (Pr)) (t:Int×Int) h'=>t.1=(g.2.1.length:Int)∧t.2=((g.2.1.length+2*a:Nat):Int)∧ys=g.1++g.2.2∧Eqf lt g.1 g.2.1∧Full lt (2*a) g.2.1∧Runs lt a g.2.2∧OwnS eu 2 ao M h' s (g.2.1++g.2.2)∧Upd M h h') (fun g=>g.2.2.length) ([],[],ys)
   ⟨rfl,by simp,rfl,Eqf.rfl _,Full.nil,hr,U,k3⟩ ?_
  rintro I3 ⟨Y,D,T⟩ ⟨ta,tb⟩ h4 ⟨k,P,J,d,j,e,O,E⟩ hI3;simp only at k P J d j e O;subst k P J;have hYD:=d.len;simp only[ac]at c;have ea:IntKind.wrap .i64 ((D.length:Int)+(a:Int))=((D.length+a:Nat):Int):=by rw[dI (by omega)];omega
  simp only;rw[ea];refine ax (fun hle=>?_) fun Q=>?_
  ·obtain⟨B1,T1,rfl,hB1,x,p⟩:=e.split (by omega)
   simp only[ac]at c;obtain⟨B2,T2,rfl,hB2,sB2,hr2⟩:=p.split (by omega);simp only[ac]at c;refine Ea w hc i (B1.length+B2.length) (aj _) O (hc.step E hi) (by omega) (by omega) x sB2 rfl (by omega) (by omega) fun G R A u N=>?_
   have z:=u.eqf.len;rw[ac]at z;have F:IntKind.wrap .i64 (((D.length+2*a:Nat):Int)+((2*a:Nat):Int))=(((D++R).length+2*a:Nat):Int):=by rw[ac,dI (by omega)];omega
   rw[F];refine hI3 (Y++(B1++B2),D++R,T2) _ _ ⟨by simp only[ac];omega,rfl,by simp,d.app u.eqf,j.app (by omega) u.srt,hr2,by rw[ar];exact A,E.trans N fun b n=>.inl n⟩ (by simp only[ac];omega)
  ·refine Join.intro (fun _ G=>∃R,Eqf lt T R∧Runs lt (2*a) R∧OwnS eu 2 ao M G s (D++R)∧Upd M h G) (fun Rj C=>?_) ?_
   ·refine ax (fun hmn=>?_) fun hmn=>?_
    ·obtain⟨B1,T1,rfl,hB1,x,p⟩:=e.split (by omega)
     simp only[ac]at c;have V:D++(B1++T1)=D++(B1++(T1++ [])):=by simp
     rw[V]at O;refine Ea w hc i (B1.length+T1.length) (aj _) O (hc.step E hi) (by omega) (by omega) x (p.short (by omega)) rfl (by omega) (by omega) fun G R A u N=>?_
     have z:=u.eqf.len;rw[ac]at z;rw[aL]at A;exact C _ _ ⟨R,u.eqf,.last R (by omega) u.srt,A,E.trans N fun b n=>.inl n⟩
    ·exact C _ _ ⟨T,Eqf.rfl _,.last T (by omega) (e.short (by omega)),O,E⟩
   ·rintro _ G ⟨R,q5,r5,A,N⟩
    have F:IntKind.wrap .i64 ((a:Int)*2)=((2*a:Nat):Int):=by rw[dI (by omega)];omega
    rw[F];exact Z (2*a,D++R) _ _ ⟨rfl,by simp only;omega,by simp only;omega,j R r5,o.tr (d.app q5),A,N⟩ (by simp only;omega)
 ·exact hk h3 ys U ⟨o,hr.short (by omega)⟩ k3
end Go.Proofs
