/- A part of the proof that the named laws of this program answer true, whatever the input. -/
import Derived.Test.YtncppacbfagpgaaGreatDoorPart4
import Derived.Test.YtncppacbfagpgaaGreatDoorPart5
open List renaming length_append→ac,length_nil→aJ,length_cons→al,length_eq_zero_iff→aw,append_nil→aL,nil_append→cz,take_append_drop→aK,length_take→aI,length_drop→aU,append_assoc→ar,mem_append→bI,mem_singleton→aF,mem_cons→aB,length_singleton→aE,getElem?_eq_some_iff→bJ,getElem?_eq_getElem→ae,getElem_of_mem→bm,getElem?_append_left→bP,getElem?_append_right→aN,mem_of_getLast?→gh,mem_filter→eg,mem_cons_of_mem→aC,mem_cons_self→av,pairwise_cons→aA,mem_range→g7,flatMap_cons→aP,flatMap_append→bR,length_map→dw
open List.Pairwise renaming nil→fT
open Nat renaming eq_zero_or_pos→cF,le_refl→aj,add_sub_cancel_left→cM,sub_self→dP,zero_le→aS
namespace Go.Proofs
open Go Go.Lift
variable {z0:Hs}
theorem x6{M:Nat→Prop}{h:ad}{s:SliceV}{A U C V B:List (Pr)}(F:OwnS (tU z0) 3 aX M h s (A++(U++(C++(V++B)))))(hn:s.len≤1000000000)(f:U.length=V.length){a b:Nat}(e:a=A.length)(p:b=A.length+U.length+C.length){n:Nat}(z:n=U.length){o:Value}{K:Unit→ad→Prop}
  (Q:∀h',OwnS (tU z0) 3 aX M h' s (A++(V++(C++(U++B))))→Upd M h h'→K () h'):HC PG dA [.slice s.a s.len s.cap,.int .i64 a,.int .i64 b,.int .i64 n,o] [] K h:=by
 subst e p z;refine px s A.length (A.length+U.length+C.length:Nat) U.length o ?_;unfold jU bE bX B5 gD;have d:=F.len;simp only[ac]at d;refine LoopP.ghost (fun(g:(List (Pr)×List (Pr))×List (Pr)×List (Pr)) (t:Int) h'=>t=(g.1.1.length:Int)∧U=g.1.1++g.1.2∧V=g.2.1++g.2.2∧g.1.1.length=g.2.1.length∧OwnS (tU z0) 3 aX M h' s (A++(g.2.1++(g.1.2++(C++(g.1.1++(g.2.2++B))))))∧Upd M h h') (fun g=>g.1.2.length) (([],U),[],V)
  ⟨rfl,rfl,rfl,rfl,F,Upd.refl _ _⟩ ?_
 rintro I ⟨⟨U1,U2⟩,V1,V2⟩ t h' ⟨H,P,J,G,c,E⟩ T;simp only at H P J G c;subst H P J;simp only[ac]at f d;refine ax (fun q=>?_) fun y=>?_
 ·simp only[ac]at q
  match U2,V2 with
  | [],_=>simp only[aJ]at q;omega
  |_::_,[]=>simp only[aJ,al]at f;omega
  |u::U2,v::V2=>
   simp only[al]at f d;simp only[ac,al];have x:IntKind.wrap .i64 (((A.length+(U1.length+(U2.length+1))+C.length:Nat):Int)+(U1.length:Int))=((A.length+(U1.length+(U2.length+1))+C.length+U1.length:Nat):Int):=by rw[dI (by omega)];omega
   have D:IntKind.wrap .i64 ((A.length:Int)+(U1.length:Int))=((A.length+U1.length:Nat):Int):=by rw[dI (by omega)];omega
   rw[x,D];have X:A++(V1++((u::U2)++(C++(U1++((v::V2)++B)))))=(A++V1)++u::(U2++(C++(U1++(v::V2++B)))):=by simp
   have Y:(A++V1)++u::(U2++(C++(U1++(v::V2++B))))=((A++V1)++u::(U2++(C++U1)))++v::(V2++B):=by simp
   have W:(A++V1)++v::(U2++(C++(U1++(v::V2++B))))=((A++V1)++v::(U2++(C++U1)))++v::(V2++B):=by simp
   have Z:((A++V1)++v::(U2++(C++U1)))++u::(V2++B)=A++((V1++ [v])++(U2++(C++((U1++ [u])++(V2++B))))):=by simp
   rw[X]at c;obtain⟨a,e,k⟩:=fK c (i:=A.length+U1.length) (by rw[ac];omega);have j:=c;rw[Y]at j;obtain⟨a',w,m⟩:=fK j (i:=A.length+(U1.length+(U2.length+1))+C.length+U1.length) (by simp only[ac,al];omega);rw[e]at w;cases w;refine⟨⟨by omega,by omega⟩,a,e,v.1,m 0 _ rfl,v.2,m 1 _ rfl,eP z0 v.1,m 2 _ rfl,⟨by omega,by omega⟩,a,e,u.1,k 0 _ rfl,u.2,k 1 _ rfl,eP z0 u.1,k 2 _ rfl,⟨by omega,by omega⟩,a,e,?_⟩
   refine mK c v e (by rw[ac];omega) fun h2 L S=>⟨⟨by omega,by omega⟩,a,e,?_⟩
   rw[W]at L;refine mK L u e (by first|omega|(simp;done)|(simp;omega)) fun h3 O R=>?_
   rw[Z]at O;rw[ga (n:=U1.length+(U2.length+1)) (by omega) (by omega)];exact T ((U1++ [u],U2),V1++ [v],V2) _ _ ⟨by simp,by simp,by simp,by simp[G],O,(E.trans S fun b p=>.inl p).trans R fun b p=>.inl p⟩ (by simp)
 ·simp only[ac]at y
  have N:U2= []:=aw.1 (by omega);have h2:V2= []:=aw.1 (by rw[N,aJ]at f;omega);subst N h2;simp only[aL,cz]at c Q;exact Q h' c E
theorem SJ{M:Nat→Prop}{h:ad}{s:SliceV}{A U V B:List (Pr)}(P:OwnS (tU z0) 3 aX M h s (A++(U++(V++B))))(O:s.len≤1000000000)(S:0<U.length)(X:0<V.length){a m b:Nat}(W:a=A.length)(hm:m=A.length+U.length)(o:b=A.length+U.length+V.length){v:Value}{K:Unit→ad→Prop}
  (Z:∀h',OwnS (tU z0) 3 aX M h' s (A++(V++(U++B)))→Upd M h h'→K () h'):HC PG gU [.slice s.a s.len s.cap,.int .i64 a,.int .i64 m,.int .i64 b,v] [] K h:=by
 subst W hm o;refine qJ s A.length (A.length+U.length:Nat) (A.length+U.length+V.length:Nat) v ?_;unfold lf;have z:=P.len;simp only[ac]at z;have D:IntKind.wrap .i64 (((A.length+U.length:Nat):Int)-(A.length:Int))=(U.length:Int):=by rw[dI (by omega)];omega
 have E:IntKind.wrap .i64 (((A.length+U.length+V.length:Nat):Int)-((A.length+U.length:Nat):Int))=(V.length:Int):=by rw[dI (by omega)];omega
 rw[D,E];refine LoopP.ghost (fun(g:(List (Pr)×List (Pr))×List (Pr)×List (Pr)) (t:Int×Int) h'=>t.1=(g.1.2.length:Int)∧t.2=(g.2.1.length:Int)∧0<g.1.2.length∧0<g.2.1.length∧A.length+U.length=g.1.1.length+g.1.2.length∧g.1.1++(g.2.1++(g.1.2++g.2.2))=A++(V++(U++B))∧OwnS (tU z0) 3 aX M h' s (g.1.1++(g.1.2++(g.2.1++g.2.2)))∧Upd M h h') (fun g=>g.1.2.length+g.2.1.length) ((A,U),V,B)
  ⟨rfl,rfl,S,X,rfl,rfl,P,Upd.refl _ _⟩ ?_
 rintro I ⟨⟨A',U'⟩,V',f⟩ ⟨ti,tj⟩ h' ⟨D,E,L,G,k,e,c,F⟩ Q;simp only at D E L G k e c;subst D E;have d:=c.len;simp only[ac]at d;have N:((A.length+U.length:Nat):Int)=((A'.length+U'.length:Nat):Int):=by omega
 rw[N];have R:IntKind.wrap .i64 (((A'.length+U'.length:Nat):Int)-(U'.length:Int))=(A'.length:Int):=by rw[dI (by omega)];omega
 simp only;rw[R];refine CondP.intro (fun i=>?_) fun w=>?_
 ·have i:(U'.length:Int)≠(V'.length:Int):=by simpa using i
  refine ax (fun C=>?_) fun T=>?_
  ·
   have C:V'.length<U'.length:=by omega
   obtain⟨U1,U2,rfl,j⟩:∃U1 U2,U'=U1++U2∧U1.length=V'.length:=⟨U'.take V'.length,U'.drop V'.length,(aK ..).symm,by rw[aI];omega⟩
   simp only[ac]at C d k i R;have y:A'++((U1++U2)++(V'++f))=A'++(U1++(U2++(V'++f))):=by simp
   have Y:A'++(V'++(U2++(U1++f)))=(A'++V')++(U2++(U1++f)):=by simp
   rw[y]at c;refine x6 c O j rfl (b:=A'.length+(U1++U2).length) (by simp only[ac];omega) (n:=V'.length) j.symm fun h2 p u=>?_
   rw[Y]at p;have q:IntKind.wrap .i64 (((U1++U2).length:Int)-(V'.length:Int))=(U2.length:Int):=by rw[ac,dI (by omega)];omega
   rw[q];refine Q ((A'++V',U2),U1,f) _ _ ⟨rfl,by simp only;omega,by simp only;omega,by simp only;omega,by simp only[ac];omega,?_,p,F.trans u fun b o=>.inl o⟩ (by simp only[ac];omega)
   rw[←e];simp
  ·have J:U'.length<V'.length:=by omega
   obtain⟨V1,V2,rfl,j⟩:∃V1 V2,V'=V1++V2∧V2.length=U'.length:=⟨V'.take (V'.length-U'.length),V'.drop (V'.length-U'.length),(aK ..).symm,by rw[aU];omega⟩
   simp only[ac]at J d i;have q:IntKind.wrap .i64 ((IntKind.wrap .i64 (((A'.length+U'.length:Nat):Int)+((V1++V2).length:Int)))-(U'.length:Int))=((A'.length+U'.length+V1.length:Nat):Int):=by
    rw[ac,dI (x:=((A'.length+U'.length:Nat):Int)+((V1.length+V2.length:Nat):Int)) (by omega),dI (by omega)];omega
   rw[q];have y:A'++(U'++((V1++V2)++f))=A'++(U'++(V1++(V2++f))):=by simp
   rw[y]at c;refine x6 c O j.symm rfl rfl rfl fun h2 p u=>?_
   have H:IntKind.wrap .i64 (((V1++V2).length:Int)-(U'.length:Int))=(V1.length:Int):=by rw[ac,dI (by omega)];omega
   rw[H];refine Q ((A',V2),V1,U'++f) _ _ ⟨by simp only;omega,rfl,by simp only;omega,by simp only;omega,by simp only;omega,?_,p,F.trans u fun b o=>.inl o⟩ (by simp only[ac];omega)
   rw[←e];simp
 ·have w:(U'.length:Int)=(V'.length:Int):=by simpa using w
  have y:A'++(U'++(V'++f))=A'++(U'++([]++(V'++f))):=by simp
  rw[y]at c;refine x6 c O (by omega) rfl (b:=A'.length+U'.length) (by simp) rfl fun h2 p u=>?_
  rw[cz,e]at p;exact Z h2 p (F.trans u fun b o=>.inl o)
theorem Hg{lt:Pr→Pr→Bool}(w:WO lt){M:Nat→Prop}{Iv:ad→Prop}{v:Value}(hc:Cmp lt (tU z0) M Iv v){h:ad}{s:SliceV}{A S B:List (Pr)}(ho:OwnS (tU z0) 3 aX M h s (A++(S++B)))(hi:Iv h)(hn:s.len≤1000000000){a b:Nat}(c:a=A.length)(H:b=A.length+S.length){K:Unit→ad→Prop}
  (hk:∀h' R,OwnS (tU z0) 3 aX M h' s (A++(R++B))→St lt S R→Upd M h h'→K () h'):HC PG dM [.slice s.a s.len s.cap,.int .i64 a,.int .i64 b,v] [] K h:=by
 subst c H;refine ny s A.length (A.length+S.length:Nat) v ?_;unfold iG bE bX ji ay df B5 gD xX;have k:=ho.len;simp only[ac]at k;have ea:IntKind.wrap .i64 ((A.length:Int)+1)=((A.length+1:Nat):Int):=by rw[dI (by omega)];omega
 rw[ea];refine LoopP.ghost (fun(g:List (Pr)×List (Pr)×List (Pr)) (t:Int) h'=>t=((A.length+max 1 g.1.length:Nat):Int)∧S=g.1++g.2.2∧(g.1= []→g.2.2= [])∧St lt g.1 g.2.1∧OwnS (tU z0) 3 aX M h' s (A++(g.2.1++(g.2.2++B)))∧Upd M h h') (fun g=>g.2.2.length) (S.take 1,S.take 1,S.drop 1)
  ⟨?_,(aK ..).symm,fun e=>?_,⟨Eqf.rfl _,?_⟩,by rw[←ar (S.take 1),aK];exact ho,Upd.refl _ _⟩ ?_
 ·simp only[aI];omega
 ·have:=congrArg List.length e
  simp only[aI,aJ]at this;exact aw.1 (by simp only[aU];omega)
 ·match S with
  | []=>exact Srt.nil
  |x::S=>exact Srt.one x
 rintro I ⟨S1,R1,T⟩ t h' ⟨N,Q,m,n,o,hu⟩ hI;simp only at N Q m n o;subst N Q;simp only[ac]at k;have hR1:=n.eqf.len;refine ax (fun D=>?_) fun hge=>?_
 ·simp only[ac]at D
  have W:S1≠[]:=fun e=>by
   have:=m e;subst e;subst this;simp only[aJ]at D;omega
  have hS1l:0<S1.length:=List.length_pos_iff.2 W;match T with
  | []=>simp only[aJ]at D;omega
  |x::T=>
   have P:A.length+max 1 S1.length=A.length+S1.length:=by omega
   rw[P];refine LoopP.ghost (fun(g:List (Pr)×List (Pr)) (t:Int) h2=>t=((A.length+g.1.length:Nat):Int)∧R1=g.1++g.2∧(∀y∈g.2,lt x y=true)∧OwnS (tU z0) 3 aX M h2 s (A++(g.1++(x::(g.2++(T++B)))))∧Upd M h h2) (fun g=>g.1.length) (R1,[])
    ⟨by simp only;omega,by simp,fun y d=>(by cases d),by simpa using o,hu⟩ ?_
   rintro I2 ⟨L,G⟩ t2 h2 ⟨N,Q,hG,f,C⟩ X;simp only at N Q hG f;subst N Q;simp only[ac]at hR1;simp only[al]at k;refine Join.intro (fun t h3=>Upd M h h3∧OwnS (tU z0) 3 aX M h3 s (A++(L++(x::(G++(T++B)))))∧(t=true→∃L' y,L=L'++ [y]∧lt x y=true)∧(t=false→∀y∈L,lt x y=false)) (fun Rj F=>?_) ?_
   ·refine ax (fun hgt=>?_) fun hle=>?_
    ·rcases BR L with rfl|⟨L',y,rfl⟩
     ·simp only[aJ]at hgt;omega
     have p:(L'++ [y]).length=L'.length+1:=by simp
     have J:IntKind.wrap .i64 (((A.length+(L'++ [y]).length:Nat):Int)-1)=((A.length+L'.length:Nat):Int):=by rw[p,dI (by omega)];omega
     rw[J];have O:A++((L'++ [y])++(x::(G++(T++B))))=(A++L')++y::(x::(G++(T++B))):=by simp
     have f2:A++((L'++ [y])++(x::(G++(T++B))))=(A++(L'++ [y]))++x::(G++(T++B)):=by simp
     have o3:=f;have E:=f;rw[O]at o3;rw[f2]at E;obtain⟨a,c,d⟩:=fK o3 (i:=A.length+L'.length) (by first|omega|(simp;done)|(simp;omega))
     obtain⟨a',j,hx⟩:=fK E (i:=A.length+(L'++ [y]).length) (by first|omega|(simp;done)|(simp;omega))
     rw[c]at j;cases j;refine⟨⟨by omega,by omega⟩,a,c,x.1,hx 0 _ rfl,x.2,hx 1 _ rfl,eP z0 x.1,hx 2 _ rfl,⟨by omega,by omega⟩,a,c,y.1,d 0 _ rfl,y.2,d 1 _ rfl,eP z0 y.1,d 2 _ rfl,?_⟩
     refine hc.call x y (hc.step C hi) fun h5 e V he=>?_
     rw[he];have Y:=f.upd V fun _ _ h=>h
     refine F _ _ ⟨C.tr V.wide,Y,fun h=>⟨L',y,rfl,h⟩,fun h z u=>?_⟩
     have hs:=n.srt.left;rcases bI.1 u with u|u
     ·exact w.ntr x y z h (hs.cross z u y (aF.2 rfl))
     ·rw[aF.1 u];exact h
    ·have hL:L= []:=aw.1 (by omega)
     exact F _ _ ⟨C,f,fun h=>(by cases h),fun _ y d=>(by rw[hL]at d;cases d)⟩
   ·rintro t3 h3 ⟨U,q,ht,hf⟩
    cases t3 with
    |true=>
     obtain⟨L',y,rfl,Z⟩:=ht rfl;have p:(L'++ [y]).length=L'.length+1:=by simp
     refine au.2 ?_;have J:IntKind.wrap .i64 (((A.length+(L'++ [y]).length:Nat):Int)-1)=((A.length+L'.length:Nat):Int):=by rw[p,dI (by omega)];omega
     rw[J];have O:A++((L'++ [y])++(x::(G++(T++B))))=(A++L')++y::(x::(G++(T++B))):=by simp
     have f2:(A++L')++y::(x::(G++(T++B)))=(A++(L'++ [y]))++x::(G++(T++B)):=by simp
     have f3:(A++(L'++ [y]))++y::(G++(T++B))=(A++L')++y::(y::(G++(T++B))):=by simp
     have f4:(A++L')++x::(y::(G++(T++B)))=A++(L'++(x::((y::G)++(T++B)))):=by simp
     rw[O]at q;have E:=q;rw[f2]at E;obtain⟨a,c,d⟩:=fK q (i:=A.length+L'.length) (by first|omega|(simp;done)|(simp;omega))
     obtain⟨a',j,hx⟩:=fK E (i:=A.length+(L'++ [y]).length) (by first|omega|(simp;done)|(simp;omega))
     rw[c]at j;cases j;refine⟨⟨by omega,by omega⟩,a,c,y.1,d 0 _ rfl,y.2,d 1 _ rfl,eP z0 y.1,d 2 _ rfl,⟨by omega,by omega⟩,a,c,x.1,hx 0 _ rfl,x.2,hx 1 _ rfl,eP z0 x.1,hx 2 _ rfl,⟨by omega,by omega⟩,a,c,?_⟩
     refine mK E y c (by first|omega|(simp;done)|(simp;omega)) fun h5 o5 V=>⟨⟨by omega,by omega⟩,a,c,?_⟩
     rw[f3]at o5;refine mK o5 x c (by first|omega|(simp;done)|(simp;omega)) fun h6 o6 k6=>?_
     rw[f4]at o6;refine X (L',y::G) _ _ ⟨rfl,by simp,fun z u=>?_,o6,(U.trans V fun b H=>.inl H).trans k6 fun b H=>.inl H⟩ (by simp only[p];omega)
     rcases aB.1 u with rfl|u
     ·exact Z
     ·exact hG z u
    |false=>
     refine ag.2 ?_;have J:IntKind.wrap .i64 (((A.length+S1.length:Nat):Int)+1)=((A.length+max 1 (S1.length+1):Nat):Int):=by rw[dI (by omega)];omega
     rw[J];refine hI (S1++ [x],L++x::G,T) _ _ ⟨by simp,by simp,fun e=>(by simp at e),N3 w n (hf rfl) hG,?_,U⟩ (by simp)
     have O:A++((L++x::G)++(T++B))=A++(L++(x::(G++(T++B)))):=by simp
     rw[O];exact q
 ·simp only[ac]at hge
  have hT:T= []:=by
   rcases cF S1.length with h0|h0
   ·exact m (aw.1 h0)
   ·exact aw.1 (by omega)
  subst hT;rw[cz]at o;rw[aL]at hk;exact hk h' R1 o n hu
theorem Eb{lt:Pr→Pr→Bool}(w:WO lt){M:Nat→Prop}{Iv:ad→Prop}{cmp:Value}(hc:Cmp lt (tU z0) M Iv cmp){s:SliceV}(hn:s.len≤1000000000):∀(n:Nat) {h:ad} {A U V B:List (Pr)},U.length+V.length≤n→OwnS (tU z0) 3 aX M h s (A++(U++(V++B)))→Iv h→0<U.length→0<V.length→Srt lt U→Srt lt V→∀{a m b:Nat},a=A.length→m=A.length+U.length→b=A.length+U.length+V.length→∀{K:Unit→ad→Prop},
  (∀h' R,OwnS (tU z0) 3 aX M h' s (A++(R++B))→St lt (U++V) R→Upd M h h'→K () h')→HC PG cS [.slice s.a s.len s.cap,.int .i64 a,.int .i64 m,.int .i64 b,cmp] [] K h:=by
 intro n;induction n with
 |zero=>intro h A U V B hl _ _ hU;omega
 |succ n ih=>
  intro h A U V B hl ho hi hU hV sU sV a m b ha hm N K hk;refine pV s a m b cmp ?_;unfold j7 bE bX ji ay df B5 gD xX;have z:=ho.len;simp only[ac]at z;have e1:IntKind.wrap .i64 ((m:Int)-(a:Int))=(U.length:Int):=by rw[dI (by omega)];omega
  have e2:IntKind.wrap .i64 ((b:Int)-(m:Int))=(V.length:Int):=by rw[dI (by omega)];omega
  rw[e1,e2];refine CondP.intro (fun J=>?_) fun hmore=>?_
  ·have J:U.length=1:=by have:=eq_of_beq J;omega
   match U,J with
   | [u],_=>
   simp only[aE]at z hm N;refine LoopP.ghost (fun(g:Nat×Nat) (t:Int×Int) h'=>t.1=(g.1:Int)∧t.2=(g.2:Int)∧m≤g.1∧g.1≤g.2∧g.2≤b∧(∀q x,V[q]? =some x→m+q<g.1→lt x u=true)∧(∀q x,V[q]? =some x→g.2≤m+q→lt x u=false)∧OwnS (tU z0) 3 aX M h' s (A++([u]++(V++B)))∧Upd M h h') (fun g=>g.2-g.1) (m,b)
    ⟨rfl,rfl,aj _,by simp only;omega,aj _,fun q x D h=>(by simp only at h;omega),fun q x D h=>(by have:=(bJ.1 D).1;simp only at h;omega),ho,Upd.refl _ _⟩ ?_
   rintro I ⟨i,j⟩ ⟨ti,tj⟩ h' ⟨e1,e2,hmi,G,hjb,L,H,F,hu⟩ hI;simp only at e1 e2 hmi G hjb L H;subst e1 e2;refine ax (fun O=>?_) fun hge=>?_
   ·have O:i<j:=by have:(i:Int)<(j:Int):=O;omega
    refine⟨by decide,?_⟩;simp only[Bd];rw[xn (by omega)];have Z:(i+j)/2-m<V.length:=by omega
    have hk0:(i+j)/2=A.length+1+((i+j)/2-m):=by omega
    obtain⟨X,f,hx⟩:=uw F (i:=(i+j)/2) (x:=V[(i+j)/2-m]) (OD (U:= [u]) (k:=(i+j)/2-m) (by simp only[aE];omega) (ae Z));obtain⟨a2,C,T⟩:=fK (P:=A) (x:=u) (Q:=V++B) F ha;rw[f]at C;cases C;have hVk:V[(i+j)/2-m]? =some V[(i+j)/2-m]:=ae Z;generalize V[(i+j)/2-m]=x at hx hVk;refine⟨⟨by omega,by omega⟩,X,f,x.1,hx 0 _ rfl,x.2,hx 1 _ rfl,eP z0 x.1,hx 2 _ rfl,⟨by omega,by omega⟩,X,f,u.1,T 0 _ rfl,u.2,T 1 _ rfl,eP z0 u.1,T 2 _ rfl,?_⟩
    refine hc.call x u (hc.step hu hi) fun W e k5 he=>?_
    rw[he];have ho5:=F.upd k5 fun _ _ h=>h
    have Y:=hu.tr k5.wide;cases hxu:lt x u with
    |true=>
     refine au.2 ?_;have ew:IntKind.wrap .i64 ((((i+j)/2:Nat):Int)+1)=(((i+j)/2+1:Nat):Int):=by rw[dI (by omega)];omega
     rw[ew];refine hI ((i+j)/2+1,j) _ _ ⟨rfl,rfl,by simp only;omega,by simp only;omega,hjb,fun q y D hqi=>?_,H,ho5,Y⟩ (by simp only;omega)
     have hle:=kO w sV (i:=q) (j:=(i+j)/2-m) (by simp only at hqi;omega) D hVk;cases hyu:lt y u with
     |true=>rfl
     |false=>rw[w.ntr _ _ _ hle hyu]at hxu;cases hxu
    |false=>
     refine ag.2 ?_;refine hI (i,(i+j)/2) _ _ ⟨rfl,rfl,hmi,by simp only;omega,by simp only;omega,L,fun q y D hqi=>?_,ho5,Y⟩ (by simp only;omega)
     have hle:=kO w sV (i:=(i+j)/2-m) (j:=q) (by simp only at hqi;omega) hVk D;exact w.ntr _ _ _ hle hxu
   ·have G:i=j:=by have:¬(i:Int)<(j:Int):=hge;omega
    subst G;obtain⟨V1,V2,rfl,hV1⟩:∃V1 V2,V=V1++V2∧V1.length=i-m:=⟨V.take (i-m),V.drop (i-m),(aK ..).symm,by rw[aI];omega⟩
    simp only[ac]at z N;have lo1:∀x∈V1,lt x u=true:=fun x hx=>by
     obtain⟨q,D,e⟩:=bm hx;exact L q x (by rw[bP D,ae D,e]) (by omega)
    have hi1:∀x∈V2,lt x u=false:=fun x hx=>by
     obtain⟨q,D,e⟩:=bm hx;exact H (V1.length+q) x (by rw[aN (by omega),cM,ae D,e]) (by omega)
    have hst:=Ec w sV lo1 hi1;have f0:A++([u]++((V1++V2)++B))=A++([]++(u::(V1++(V2++B)))):=by simp
    rw[f0]at F;have ew:IntKind.wrap .i64 ((i:Int)-1)=((A.length+V1.length:Nat):Int):=by rw[dI (by omega)];omega
    rw[ew];refine LoopP.ghost (fun(g:List (Pr)×List (Pr)) (t:Int) h2=>t=((A.length+g.1.length:Nat):Int)∧V1=g.1++g.2∧OwnS (tU z0) 3 aX M h2 s (A++(g.1++(u::(g.2++(V2++B)))))∧Upd M h h2) (fun g=>g.2.length) ([],V1)
     ⟨by simp[ha],rfl,F,hu⟩ ?_
    rintro I2 ⟨G1,E⟩ t2 h2 ⟨e1,e2,o,S⟩ hI2;simp only at e1 e2 o;subst e1 e2;simp only[ac]at z N ew⊢;refine ax (fun O=>?_) fun hge=>?_
    ·match E with
     | []=>simp only[aJ]at O;omega
     |g::E=>
      simp only[al]at z;have ew1:IntKind.wrap .i64 (((A.length+G1.length:Nat):Int)+1)=((A.length+G1.length+1:Nat):Int):=by rw[dI (by omega)];omega
      rw[ew1];have f1:A++(G1++(u::((g::E)++(V2++B))))=(A++G1)++u::(g::(E++(V2++B))):=by simp
      have f2:(A++G1)++u::(g::(E++(V2++B)))=(A++(G1++ [u]))++g::(E++(V2++B)):=by simp
      have f3:(A++G1)++g::(g::(E++(V2++B)))=(A++(G1++ [g]))++g::(E++(V2++B)):=by simp
      have f4:(A++(G1++ [g]))++u::(E++(V2++B))=A++((G1++ [g])++(u::(E++(V2++B)))):=by simp
      rw[f1]at o;have o3:=o;rw[f2]at o3;obtain⟨X,f,T⟩:=fK o3 (i:=A.length+G1.length+1) (by first|omega|(simp;done)|(simp;omega))
      obtain⟨a2,C,hx⟩:=fK o (i:=A.length+G1.length) (by first|omega|(simp;done)|(simp;omega))
      rw[f]at C;cases C;refine⟨⟨by omega,by omega⟩,X,f,g.1,T 0 _ rfl,g.2,T 1 _ rfl,eP z0 g.1,T 2 _ rfl,⟨by omega,by omega⟩,X,f,u.1,hx 0 _ rfl,u.2,hx 1 _ rfl,eP z0 u.1,hx 2 _ rfl,⟨by omega,by omega⟩,X,f,?_⟩
      refine mK o g f (by first|omega|(simp;done)|(simp;omega)) fun W o5 k5=>⟨⟨by omega,by omega⟩,X,f,?_⟩
      rw[f3]at o5;refine mK o5 u f (by first|omega|(simp;done)|(simp;omega)) fun h6 o6 k6=>?_
      rw[f4]at o6;exact hI2 (G1++ [g],E) _ _ ⟨by simp;omega,by simp,o6,(S.trans k5 fun b N=>.inl N).trans k6 fun b N=>.inl N⟩ (by simp)
    ·have hG:E= []:=aw.1 (by omega)
     subst hG;simp only[aL,cz]at o hst hk;refine hk h2 (G1++u::V2) ?_ hst S;have f1:A++((G1++u::V2)++B)=A++(G1++(u::(V2++B))):=by simp
     rw[f1];exact o
  refine CondP.intro (fun J=>?_) fun hmore2=>?_
  ·have J:V.length=1:=by have:=eq_of_beq J;omega
   match V,J with
   | [v],_=>
   simp only[aE]at z N;refine LoopP.ghost (fun(g:Nat×Nat) (t:Int×Int) h'=>t.1=(g.1:Int)∧t.2=(g.2:Int)∧a≤g.1∧g.1≤g.2∧g.2≤m∧(∀q x,U[q]? =some x→a+q<g.1→lt v x=false)∧(∀q x,U[q]? =some x→g.2≤a+q→lt v x=true)∧OwnS (tU z0) 3 aX M h' s (A++(U++([v]++B)))∧Upd M h h') (fun g=>g.2-g.1) (a,m)
    ⟨rfl,rfl,aj _,by simp only;omega,aj _,fun q x D h=>(by simp only at h;omega),fun q x D h=>(by have:=(bJ.1 D).1;simp only at h;omega),ho,Upd.refl _ _⟩ ?_
   rintro I ⟨i,j⟩ ⟨ti,tj⟩ h' ⟨e1,e2,hmi,G,hjb,L,H,F,hu⟩ hI;simp only at e1 e2 hmi G hjb L H;subst e1 e2;refine ax (fun O=>?_) fun hge=>?_
   ·have O:i<j:=by have:(i:Int)<(j:Int):=O;omega
    refine⟨by decide,?_⟩;simp only[Bd];rw[xn (by omega)];have Z:(i+j)/2-a<U.length:=by omega
    obtain⟨X,f,hx⟩:=uw F (i:=(i+j)/2) (x:=U[(i+j)/2-a]) (Iq (k:=(i+j)/2-a) (by omega) (ae Z));have f1:A++(U++([v]++B))=(A++U)++v::B:=by simp
    have o3:=F;rw[f1]at o3;obtain⟨a2,C,T⟩:=fK o3 (i:=m) (by first|omega|(simp;done)|(simp;omega))
    rw[f]at C;cases C;have hVk:U[(i+j)/2-a]? =some U[(i+j)/2-a]:=ae Z;generalize U[(i+j)/2-a]=x at hx hVk;refine⟨⟨by omega,by omega⟩,X,f,v.1,T 0 _ rfl,v.2,T 1 _ rfl,eP z0 v.1,T 2 _ rfl,⟨by omega,by omega⟩,X,f,x.1,hx 0 _ rfl,x.2,hx 1 _ rfl,eP z0 x.1,hx 2 _ rfl,?_⟩
    refine hc.call v x (hc.step hu hi) fun W e k5 he=>?_
    rw[he];have ho5:=F.upd k5 fun _ _ h=>h
    have Y:=hu.tr k5.wide;cases hxu:lt v x with
    |false=>
     refine au.2 ?_;have ew:IntKind.wrap .i64 ((((i+j)/2:Nat):Int)+1)=(((i+j)/2+1:Nat):Int):=by rw[dI (by omega)];omega
     rw[ew];refine hI ((i+j)/2+1,j) _ _ ⟨rfl,rfl,by simp only;omega,by simp only;omega,hjb,fun q y D hqi=>?_,H,ho5,Y⟩ (by simp only;omega)
     exact w.ntr _ _ _ hxu (kO w sU (i:=q) (j:=(i+j)/2-a) (by simp only at hqi;omega) D hVk)
    |true=>
     refine ag.2 ?_;refine hI (i,(i+j)/2) _ _ ⟨rfl,rfl,hmi,by simp only;omega,by simp only;omega,L,fun q y D hqi=>?_,ho5,Y⟩ (by simp only;omega)
     have hle:=kO w sU (i:=(i+j)/2-a) (j:=q) (by simp only at hqi;omega) hVk D;cases hvy:lt v y with
     |true=>rfl
     |false=>rw[w.ntr _ _ _ hvy hle]at hxu;cases hxu
   ·have G:i=j:=by have:¬(i:Int)<(j:Int):=hge;omega
    subst G;obtain⟨U1,U2,rfl,hU1⟩:∃U1 U2,U=U1++U2∧U1.length=i-a:=⟨U.take (i-a),U.drop (i-a),(aK ..).symm,by rw[aI];omega⟩
    simp only[ac]at z N hm;have lo1:∀x∈U1,lt v x=false:=fun x hx=>by
     obtain⟨q,D,e⟩:=bm hx;exact L q x (by rw[bP D,ae D,e]) (by omega)
    have hi1:∀x∈U2,lt v x=true:=fun x hx=>by
     obtain⟨q,D,e⟩:=bm hx;exact H (U1.length+q) x (by rw[aN (by omega),cM,ae D,e]) (by omega)
    have hst:=GX w sU lo1 hi1;have f0:A++((U1++U2)++([v]++B))=A++(U1++(U2++(v::([]++B)))):=by simp
    rw[f0]at F;refine LoopP.ghost (fun(g:List (Pr)×List (Pr)) (t:Int) h2=>t=((A.length+U1.length+g.1.length:Nat):Int)∧U2=g.1++g.2∧OwnS (tU z0) 3 aX M h2 s (A++(U1++(g.1++(v::(g.2++B)))))∧Upd M h h2) (fun g=>g.1.length) (U2,[])
     ⟨by simp only;omega,by simp,F,hu⟩ ?_
    rintro I2 ⟨G1,E⟩ t2 h2 ⟨e1,e2,o,S⟩ hI2;simp only at e1 e2 o;subst e1 e2;simp only[ac]at z N hm⊢;refine ax (fun hgt=>?_) fun hle=>?_
    ·rcases BR G1 with rfl|⟨G1',g,rfl⟩
     ·simp only[aJ]at hgt;omega
     simp only[ac,aE]at z N hm hgt⊢;have ew1:IntKind.wrap .i64 (((A.length+U1.length+(G1'.length+1):Nat):Int)-1)=((A.length+U1.length+G1'.length:Nat):Int):=by rw[dI (by omega)];omega
     rw[ew1];have f1:A++(U1++((G1'++ [g])++(v::(E++B))))=(A++(U1++(G1'++ [g])))++v::(E++B):=by simp
     have f2:(A++(U1++(G1'++ [g])))++v::(E++B)=(A++(U1++G1'))++g::(v::(E++B)):=by simp
     have f3:(A++(U1++(G1'++ [g])))++g::(E++B)=(A++(U1++G1'))++g::(g::(E++B)):=by simp
     have f4:(A++(U1++G1'))++v::(g::(E++B))=A++(U1++(G1'++(v::((g::E)++B)))):=by simp
     rw[f1]at o;have o3:=o;rw[f2]at o3;obtain⟨X,f,T⟩:=fK o3 (i:=A.length+U1.length+G1'.length) (by first|omega|(simp;done)|(simp;omega))
     obtain⟨a2,C,hx⟩:=fK o (i:=A.length+U1.length+(G1'.length+1)) (by first|omega|(simp;done)|(simp;omega))
     rw[f]at C;cases C;refine⟨⟨by omega,by omega⟩,X,f,g.1,T 0 _ rfl,g.2,T 1 _ rfl,eP z0 g.1,T 2 _ rfl,⟨by omega,by omega⟩,X,f,v.1,hx 0 _ rfl,v.2,hx 1 _ rfl,eP z0 v.1,hx 2 _ rfl,⟨by omega,by omega⟩,X,f,?_⟩
     refine mK o g f (by first|omega|(simp;done)|(simp;omega)) fun W o5 k5=>⟨⟨by omega,by omega⟩,X,f,?_⟩
     rw[f3]at o5;refine mK o5 v f (by first|omega|(simp;done)|(simp;omega)) fun h6 o6 k6=>?_
     rw[f4]at o6;exact hI2 (G1',g::E) _ _ ⟨rfl,by simp,o6,(S.trans k5 fun b N=>.inl N).trans k6 fun b N=>.inl N⟩ (by simp)
    ·have hG:G1= []:=aw.1 (by omega)
     subst hG;simp only[cz]at o hst hk;refine hk h2 (U1++v::E) ?_ hst S;have f1:A++((U1++v::E)++B)=A++(U1++(v::(E++B))):=by simp
     rw[f1];exact o
  have hU2:2≤U.length:=by
   have:(U.length:Int)≠1:=by simpa using hmore
   omega
  have hV2:2≤V.length:=by
   have:(V.length:Int)≠1:=by simpa using hmore2
   omega
  refine⟨by decide,?_⟩;simp only[Bd];rw[xn (i:=a) (j:=b) (by omega)];obtain⟨d,hmid⟩:∃d,(a+b)/2=d:=⟨_,rfl⟩;rw[hmid];have em:IntKind.wrap .i64 ((d:Int)+(m:Int))=((d+m:Nat):Int):=by rw[dI (by omega)];omega
  rw[em];have ep:IntKind.wrap .i64 (((d+m:Nat):Int)-1)=((d+m-1:Nat):Int):=by rw[dI (by omega)];omega
  rw[ep];refine Join.intro (fun t h'=>h'=h∧∃s0 r0:Nat,t=((s0:Int),(r0:Int))∧a≤s0∧s0≤r0∧r0≤m∧r0≤d∧d+m≤b+s0∧(r0=d∨r0=m)∧(s0=a∨s0+b=d+m)) (fun Rj hRj=>?_) ?_
  ·refine ax (fun hgt=>?_) fun hle=>?_
   ·have es:IntKind.wrap .i64 (((d+m:Nat):Int)-(b:Int))=((d+m-b:Nat):Int):=by rw[dI (by omega)];omega
    rw[es];exact hRj _ _ ⟨rfl,_,_,rfl,by omega,by omega,by omega,by omega,by omega,by omega,by omega⟩
   ·exact hRj _ _ ⟨rfl,_,_,rfl,by omega,by omega,by omega,by omega,by omega,by omega,by omega⟩
  rintro t h' ⟨rfl,s0,r0,rfl,hs0,hsr,hrm,hrd,hsb,hr0,hs00⟩;refine LoopP.ghost (fun(g:Nat×Nat) (t:Int×Int) h2=>t.1=(g.1:Int)∧t.2=(g.2:Int)∧s0≤g.1∧g.1≤g.2∧g.2≤r0∧(∀c x y,s0≤c→c<g.1→U[c-a]? =some x→V[d-1-c]? =some y→lt y x=false)∧(∀c x y,g.2≤c→c<r0→U[c-a]? =some x→V[d-1-c]? =some y→lt y x=true)∧OwnS (tU z0) 3 aX M h2 s (A++(U++(V++B)))∧Upd M h' h2) (fun g=>g.2-g.1) (s0,r0)
   ⟨rfl,rfl,aj _,hsr,aj _,fun c x y h1 h2=>(by simp only at h2;omega),fun c x y h1 h2=>(by simp only at h1;omega),ho,Upd.refl _ _⟩ ?_
  rintro I ⟨i,j⟩ ⟨ti,tj⟩ h2 ⟨e1,e2,hsi,G,hjr,L,H,o,S⟩ hI;simp only at e1 e2 hsi G hjr L H;subst e1 e2;refine ax (fun O=>?_) fun hge=>?_
  ·have O:i<j:=by have:(i:Int)<(j:Int):=O;omega
   refine⟨by decide,?_⟩;rw[xn (i:=i) (j:=j) (by omega)];obtain⟨c,hcc⟩:∃c,(i+j)/2=c:=⟨_,rfl⟩;rw[hcc];have hci:i≤c:=by omega
   have hcj:c<j:=by omega
   have eq:IntKind.wrap .i64 (((d+m-1:Nat):Int)-(c:Int))=((d+m-1-c:Nat):Int):=by rw[dI (by omega)];omega
   rw[eq];have Z:c-a<U.length:=by omega
   have hk2:d-1-c<V.length:=by omega
   obtain⟨X,f,hx⟩:=uw o (i:=c) (x:=U[c-a]) (Iq (k:=c-a) (by omega) (ae Z));obtain⟨a2,C,T⟩:=uw o (i:=d+m-1-c) (x:=V[d-1-c]) (OD (k:=d-1-c) (by omega) (ae hk2));rw[f]at C;cases C;have hUc:U[c-a]? =some U[c-a]:=ae Z;have hVc:V[d-1-c]? =some V[d-1-c]:=ae hk2;generalize U[c-a]=x at hx hUc
   generalize V[d-1-c]=y at T hVc;refine⟨⟨by omega,by omega⟩,X,f,y.1,T 0 _ rfl,y.2,T 1 _ rfl,eP z0 y.1,T 2 _ rfl,⟨by omega,by omega⟩,X,f,x.1,hx 0 _ rfl,x.2,hx 1 _ rfl,eP z0 x.1,hx 2 _ rfl,?_⟩
   refine hc.call y x (hc.step S hi) fun W e k5 he=>?_
   rw[he];have ho5:=o.upd k5 fun _ _ h=>h
   have Y:=S.tr k5.wide;cases hyx:lt y x with
   |false=>
    refine au.2 ?_;have ew:IntKind.wrap .i64 ((c:Int)+1)=((c+1:Nat):Int):=by rw[dI (by omega)];omega
    rw[ew];refine hI (c+1,j) _ _ ⟨rfl,rfl,by simp only;omega,by simp only;omega,hjr,fun c' x' y' h1 h2 hx' hy'=>?_,H,ho5,Y⟩ (by simp only;omega)
    simp only at h2;have q1:=kO w sU (i:=c'-a) (j:=c-a) (by omega) hx' hUc;have q2:=kO w sV (i:=d-1-c) (j:=d-1-c') (by omega) hVc hy';exact w.ntr _ _ _ (w.ntr _ _ _ q2 hyx) q1
   |true=>
    refine ag.2 ?_;refine hI (i,c) _ _ ⟨rfl,rfl,hsi,hci,by simp only;omega,L,fun c' x' y' h1 h2 hx' hy'=>?_,ho5,Y⟩ (by simp only;omega)
    simp only at h1;have q1:=kO w sU (i:=c-a) (j:=c'-a) (by omega) hUc hx';have q2:=kO w sV (i:=d-1-c') (j:=d-1-c) (by omega) hy' hVc;cases hyx':lt y' x' with
    |true=>rfl
    |false=>rw[w.ntr _ _ _ (w.ntr _ _ _ q2 hyx') q1]at hyx;cases hyx
  have G:i=j:=by have:¬(i:Int)<(j:Int):=hge;omega
  subst G;have en:IntKind.wrap .i64 (((d+m:Nat):Int)-(i:Int))=((d+m-i:Nat):Int):=by rw[dI (by omega)];omega
  simp only;rw[en];obtain⟨U1,U2,eU,hU1⟩:∃U1 U2,U=U1++U2∧U1.length=i-a:=⟨U.take (i-a),U.drop (i-a),(aK ..).symm,by rw[aI];omega⟩
  obtain⟨V1,V2,eV,hV1⟩:∃V1 V2,V=V1++V2∧V1.length=d-i:=⟨V.take (d-i),V.drop (d-i),(aK ..).symm,by rw[aI];omega⟩
  have c1:∀v∈V1,∀u∈U2,lt v u=true:=fun v hv u hu=>by
   obtain⟨q,D,e⟩:=bm hv;obtain⟨p,hp,e'⟩:=bm hu;have hlU:U.length=U1.length+U2.length:=by rw[eU,ac]
   have n1:0<U2.length:=by omega
   have n2:d-1-i<V1.length:=by omega
   have gx:U[i-a]? =some (U2[0]'n1):=by rw[eU,aN (by omega),←hU1,dP,ae (by omega)]
   have gy:V[d-1-i]? =some (V1[d-1-i]'n2):=by rw[eV,bP (by omega),ae (by omega)]
   have hQ:=H i _ _ (aj _) (by omega) gx gy;have q1:=kO w sU (i:=i-a) (j:=i-a+p) (by omega) gx (by rw[eU,aN (by omega),←hU1,cM,ae hp,e']);have q2:=kO w sV (i:=q) (j:=d-1-i) (by omega) (by rw[eV,bP D,ae D,e]) gy;cases hvu:lt v u with
   |true=>rfl
   |false=>rw[w.ntr _ _ _ (w.ntr _ _ _ q2 hvu) q1]at hQ;cases hQ
  have c2:∀u∈U1,∀v∈V2,lt v u=false:=fun u hu v hv=>by
   obtain⟨p,hp,e'⟩:=bm hu;obtain⟨q,D,e⟩:=bm hv;have hlV:V.length=V1.length+V2.length:=by rw[eV,ac]
   have n1:i-1-a<U1.length:=by omega
   have n2:0<V2.length:=by omega
   have gx:U[i-1-a]? =some (U1[i-1-a]'n1):=by rw[eU,bP (by omega),ae (by omega)]
   have gy:V[d-1-(i-1)]? =some (V2[0]'n2):=by rw[eV,aN (by omega),show d-1-(i-1)-V1.length=0 by omega,ae (by omega)]
   have hQ:=L (i-1) _ _ (by omega) (by omega) gx gy;have q1:=kO w sU (i:=p) (j:=i-1-a) (by omega) (by rw[eU,bP hp,ae hp,e']) gx;have q2:=kO w sV (i:=d-i) (j:=d-i+q) (by omega) (by rw[eV,aN (by omega),hV1,dP,ae (by omega)]) (by rw[eV,aN (by omega),hV1,cM,ae D,e])
   have gy2:V[d-i]? =some (V2[0]'n2):=by rw[eV,aN (by omega),hV1,dP,ae (by omega)]
   exact w.ntr _ _ _ (w.ntr _ _ _ q2 hQ) q1
  subst eU eV;simp only[ac]at z hU hV hl hm N hU2 hV2;have sA1:=sU.left;have sA2:=sU.right;have sB1:=sV.left;have sB2:=sV.right;refine Join.intro (fun _ h3=>OwnS (tU z0) 3 aX M h3 s (A++(U1++(V1++(U2++(V2++B)))))∧Upd M h' h3) (fun Rj hRj=>?_) ?_
  ·have f1:A++((U1++U2)++((V1++V2)++B))=(A++U1)++(U2++(V1++(V2++B))):=by simp
   have f2:(A++U1)++(V1++(U2++(V2++B)))=A++(U1++(V1++(U2++(V2++B)))):=by simp
   refine Join.intro (fun t h3=>h3=h2∧(t=true↔0<U2.length∧0<V1.length)) (fun Rk hRk=>?_) ?_
   ·refine ax (fun h=>hRk _ _ ⟨rfl,?_⟩) fun h=>hRk _ _ ⟨rfl,⟨fun h=>(by cases h),fun h=>(by omega)⟩⟩
    rw[decide_eq_true_iff];constructor
    ·intro h;constructor<;>omega
    ·rintro⟨h1,h2⟩;omega
   ·rintro t h3 ⟨rfl,ht⟩
    cases t with
    |true=>
     obtain⟨p1,p2⟩:=ht.1 rfl;rw[f1]at o;refine au.2 (SJ o hn p1 p2 (by rw[ac];omega) (by rw[ac];omega) (by rw[ac];omega) fun h4 o4 k4=>hRj _ _ ⟨?_,S.trans k4 fun b N=>.inl N⟩)
     rw[f2]at o4;exact o4
    |false=>
     have hz:U2= []∨V1= []:=by
      rcases cF U2.length with h|h
      ·exact .inl (aw.1 h)
      ·rcases cF V1.length with h3|h3
       ·exact .inr (aw.1 h3)
       ·have:=ht.2 ⟨h,h3⟩;cases this
     refine ag.2 (hRj _ _ ⟨?_,S⟩);rw[f1]at o;rw[←f2];rcases hz with rfl|rfl
     ·exact o
     ·exact o
  rintro _ h3 ⟨o3,k3⟩;refine Join.intro (fun _ h4=>∃R1,OwnS (tU z0) 3 aX M h4 s (A++(R1++(U2++(V2++B))))∧St lt (U1++V1) R1∧Upd M h' h4) (fun Rj hRj=>?_) ?_
  ·refine Join.intro (fun t h4=>h4=h3∧(t=true↔0<U1.length∧0<V1.length)) (fun Rk hRk=>?_) ?_
   ·refine ax (fun h=>hRk _ _ ⟨rfl,?_⟩) fun h=>hRk _ _ ⟨rfl,⟨fun h=>(by cases h),fun h=>(by omega)⟩⟩
    rw[decide_eq_true_iff];constructor
    ·intro h;constructor<;>omega
    ·rintro⟨h1,h2⟩;omega
   ·rintro t h4 ⟨rfl,ht⟩
    cases t with
    |true=>
     obtain⟨p1,p2⟩:=ht.1 rfl;refine au.2 (ih (by omega) o3 (hc.step k3 hi) p1 p2 sA1 sB1 ha (by omega) (by omega) fun W R1 o5 s5 k5=>hRj _ _ ⟨R1,o5,s5,k3.trans k5 fun b N=>.inl N⟩)
    |false=>
     refine ag.2 (hRj _ _ ⟨U1++V1,by simpa using o3,⟨Eqf.rfl _,?_⟩,k3⟩)
     rcases cF U1.length with h|h
     ·rw[aw.1 h];exact sB1
     ·rcases cF V1.length with W|W
      ·rw[aw.1 W,aL];exact sA1
      ·have:=ht.2 ⟨h,W⟩;cases this
  rintro _ h4 ⟨R1,o4,s1,k4⟩;have hR1:=s1.eqf.len;rw[ac]at hR1;have fin:∀{W:ad} {R2:List (Pr)},OwnS (tU z0) 3 aX M W s (A++(R1++(R2++B)))→St lt (U2++V2) R2→Upd M h' W→K () W:=fun{W R2} o5 s2 k5=>by
   refine hk W (R1++R2) ?_ (MD w sU sV c1 c2 s1 s2) k5;rw[ar];exact o5
  refine Join.intro (fun t W=>W=h4∧(t=true↔0<U2.length∧0<V2.length)) (fun Rk hRk=>?_) ?_
  ·refine ax (fun h=>hRk _ _ ⟨rfl,?_⟩) fun h=>hRk _ _ ⟨rfl,⟨fun h=>(by cases h),fun h=>(by omega)⟩⟩
   rw[decide_eq_true_iff];constructor
   ·intro h;constructor<;>omega
   ·rintro⟨h1,h2⟩;omega
  ·rintro t W ⟨rfl,ht⟩
   have f1:A++(R1++(U2++(V2++B)))=(A++R1)++(U2++(V2++B)):=by simp
   cases t with
   |true=>
    obtain⟨p1,p2⟩:=ht.1 rfl;rw[f1]at o4;refine au.2 (ih (by omega) o4 (hc.step k4 hi) p1 p2 sA2 sB2 (by rw[ac];omega) (by rw[ac];omega) (by rw[ac];omega) fun h6 R2 o6 s6 k6=>fin (R2:=R2) ?_ s6 (k4.trans k6 fun b N=>.inl N))
    rw[ar]at o6;exact o6
   |false=>
    refine ag.2 (fin (R2:=U2++V2) (by simpa using o4) ⟨Eqf.rfl _,?_⟩ k4);rcases cF U2.length with h|h
    ·rw[aw.1 h];exact sB2
    ·rcases cF V2.length with h6|h6
     ·rw[aw.1 h6,aL];exact sA2
     ·have:=ht.2 ⟨h,h6⟩;cases this
theorem Sx{lt:Pr→Pr→Bool}(w:WO lt){M:Nat→Prop}{Iv:ad→Prop}{f:Value}(hc:Cmp lt (tU z0) M Iv f){h:ad}{s:SliceV}{xs:List (Pr)}(ho:OwnS (tU z0) 3 aX M h s xs)(hi:Iv h)(hn:xs.length≤100000000){K:Unit→ad→Prop}
  (hk:∀h' R,OwnS (tU z0) 3 aX M h' s R→St lt xs R→Upd M h h'→K () h'):HC PG cT [.slice s.a s.len s.cap,f] [] K h:=by
 refine lq s f ?_;unfold fW;refine qI s (s.len:Int) f ?_;unfold kZ;have m:=ho.len;have i:s.len≤1000000000:=by omega
 refine LoopP.ghost (fun(g:List (Pr)×List (Pr)×List (Pr)) (t:Int×Int) h'=>t.1=(g.2.1.length:Int)∧t.2=((g.2.1.length+20:Nat):Int)∧xs=g.1++g.2.2∧Eqf lt g.1 g.2.1∧Full lt 20 g.2.1∧OwnS (tU z0) 3 aX M h' s (g.2.1++g.2.2)∧Upd M h h') (fun g=>g.2.2.length) ([],[],xs)
  ⟨rfl,rfl,rfl,Eqf.rfl _,Full.nil,ho,Upd.refl _ _⟩ ?_
 rintro I ⟨X,D,T⟩ ⟨ta,tb⟩ h1 ⟨k,P,J,d,j,H,k1⟩ hI;simp only at k P J d j H;subst k P J;have hXD:=d.len;simp only[ac]at m hn;refine ax (fun hle=>?_) fun Q=>?_
 ·obtain⟨S,W,rfl,hS⟩:∃S W,T=S++W∧S.length=20:=⟨T.take 20,T.drop 20,(aK ..).symm,by rw[aI];omega⟩
  refine Hg w hc H (hc.step k1 hi) i rfl (b:=D.length+20) (by omega) fun h2 R y q B=>?_
  have z:=q.eqf.len;simp only[ac]at m hn;have F:IntKind.wrap .i64 (((D.length+20:Nat):Int)+20)=(((D++R).length+20:Nat):Int):=by rw[ac,dI (by omega)];omega
  rw[F];refine hI (X++S,D++R,W) _ _ ⟨by simp only[ac];omega,rfl,by simp,d.app q.eqf,j.app (by omega) q.srt,by rw[ar];exact y,k1.trans B fun b n=>.inl n⟩ (by simp only[ac];omega)
 have V:D++T=D++(T++ []):=by simp
 rw[V]at H;refine Hg w hc H (hc.step k1 hi) i rfl (b:=s.len) (by omega) fun h2 R y q B=>?_
 have z:=q.eqf.len;rw[aL]at y;have v:Eqf lt (X++T) (D++R):=d.app q.eqf;have L:Runs lt 20 (D++R):=j R (.last R (by omega) q.srt);have B:Upd M h h2:=k1.trans B fun b n=>.inl n
 generalize D++R=ys at y v L;generalize X++T=zs at v hk;have c:s.len=ys.length:=y.len;clear hI d j H V Q z;refine LoopP.ghost (fun(g:Nat×List (Pr)) (t:Int) h'=>t=(g.1:Int)∧0<g.1∧g.1≤200000000∧Runs lt g.1 g.2∧Eqf lt zs g.2∧OwnS (tU z0) 3 aX M h' s g.2∧Upd M h h') (fun g=>s.len-g.1) (20,ys)
  ⟨rfl,by simp,by simp,L,v,y,B⟩ ?_
 rintro I2 ⟨a,ys⟩ t h3 ⟨k,hb0,hb1,hr,o,U,k3⟩ Z;simp only at k hb0 hb1 hr o U;subst k;have c:s.len=ys.length:=U.len;refine ax (fun hlt=>?_) fun hge=>?_
 ·have hlt:a<s.len:=by omega
  have e0:IntKind.wrap .i64 (2*(a:Int))=((2*a:Nat):Int):=by rw[dI (by omega)];omega
  rw[e0];refine LoopP.ghost (fun(g:List (Pr)×List (Pr)×List (Pr)) (t:Int×Int) h'=>t.1=(g.2.1.length:Int)∧t.2=((g.2.1.length+2*a:Nat):Int)∧ys=g.1++g.2.2∧Eqf lt g.1 g.2.1∧Full lt (2*a) g.2.1∧Runs lt a g.2.2∧OwnS (tU z0) 3 aX M h' s (g.2.1++g.2.2)∧Upd M h h') (fun g=>g.2.2.length) ([],[],ys)
   ⟨rfl,by simp,rfl,Eqf.rfl _,Full.nil,hr,U,k3⟩ ?_
  rintro I3 ⟨Y,D,T⟩ ⟨ta,tb⟩ h4 ⟨k,P,J,d,j,e,O,E⟩ hI3;simp only at k P J d j e O;subst k P J;have hYD:=d.len;simp only[ac]at c;have ea:IntKind.wrap .i64 ((D.length:Int)+(a:Int))=((D.length+a:Nat):Int):=by rw[dI (by omega)];omega
  simp only;rw[ea];refine ax (fun hle=>?_) fun Q=>?_
  ·obtain⟨B1,T1,rfl,hB1,x,p⟩:=e.split (by omega)
   simp only[ac]at c;obtain⟨B2,T2,rfl,hB2,sB2,hr2⟩:=p.split (by omega);simp only[ac]at c;refine Eb w hc i (B1.length+B2.length) (aj _) O (hc.step E hi) (by omega) (by omega) x sB2 rfl (by omega) (by omega) fun G R A u N=>?_
   have z:=u.eqf.len;rw[ac]at z;have F:IntKind.wrap .i64 (((D.length+2*a:Nat):Int)+((2*a:Nat):Int))=(((D++R).length+2*a:Nat):Int):=by rw[ac,dI (by omega)];omega
   rw[F];refine hI3 (Y++(B1++B2),D++R,T2) _ _ ⟨by simp only[ac];omega,rfl,by simp,d.app u.eqf,j.app (by omega) u.srt,hr2,by rw[ar];exact A,E.trans N fun b n=>.inl n⟩ (by simp only[ac];omega)
  ·refine Join.intro (fun _ G=>∃R,Eqf lt T R∧Runs lt (2*a) R∧OwnS (tU z0) 3 aX M G s (D++R)∧Upd M h G) (fun Rj C=>?_) ?_
   ·refine ax (fun hmn=>?_) fun hmn=>?_
    ·obtain⟨B1,T1,rfl,hB1,x,p⟩:=e.split (by omega)
     simp only[ac]at c;have V:D++(B1++T1)=D++(B1++(T1++ [])):=by simp
     rw[V]at O;refine Eb w hc i (B1.length+T1.length) (aj _) O (hc.step E hi) (by omega) (by omega) x (p.short (by omega)) rfl (by omega) (by omega) fun G R A u N=>?_
     have z:=u.eqf.len;rw[ac]at z;rw[aL]at A;exact C _ _ ⟨R,u.eqf,.last R (by omega) u.srt,A,E.trans N fun b n=>.inl n⟩
    ·exact C _ _ ⟨T,Eqf.rfl _,.last T (by omega) (e.short (by omega)),O,E⟩
   ·rintro _ G ⟨R,q5,r5,A,N⟩
    have F:IntKind.wrap .i64 ((a:Int)*2)=((2*a:Nat):Int):=by rw[dI (by omega)];omega
    rw[F];exact Z (2*a,D++R) _ _ ⟨rfl,by simp only;omega,by simp only;omega,j R r5,o.tr (d.app q5),A,N⟩ (by simp only;omega)
 ·exact hk h3 ys U ⟨o,hr.short (by omega)⟩ k3
end Go.Proofs
namespace Go.Proofs
open Go Go.Lift
def StP(N:Nat):Prop:=∀{lt:Pr→Pr→Bool},WO lt→∀{M:Nat→Prop} {Iv:ad→Prop} {cmp:Value},Cmp lt eu M Iv cmp→∀{h:ad} {s:SliceV} {xs:List Pr},OwnS eu 2 ao M h s xs→Iv h→xs.length≤N→∀{K:Unit→ad→Prop},
 (∀h' R,OwnS eu 2 ao M h' s R→St lt xs R→Upd M h h'→K () h')→HC PG dE [.slice s.a s.len s.cap,cmp] [] K h
def StH(N:Nat):Prop:=∀{z0:Hs} {lt:Pr→Pr→Bool},WO lt→∀{M:Nat→Prop} {Iv:ad→Prop} {cmp:Value},Cmp lt (tU z0) M Iv cmp→∀{h:ad} {s:SliceV} {xs:List Pr},OwnS (tU z0) 3 aX M h s xs→Iv h→xs.length≤N→∀{K:Unit→ad→Prop},
 (∀h' R,OwnS (tU z0) 3 aX M h' s R→St lt xs R→Upd M h h'→K () h')→HC PG cT [.slice s.a s.len s.cap,cmp] [] K h
theorem stP:StP 100000000:=fun w _ _ _ hc _ _ _ c hi b _ a=>Sw w hc c hi b a
theorem stH:StH 100000000:=fun w _ _ _ hc _ _ _ c hi b _ a=>Sx w hc c hi b a
end Go.Proofs
namespace Go.Proofs
open Go Go.Lift
def aaB(a b:Pr):Bool:=decide (kl a.1 b.1)
theorem abS:WO aaB:=by
 refine⟨fun a=>decide_eq_false (co _),fun a b h=>decide_eq_false fun k=>co _ (fR (of_decide_eq_true h) k),fun a b c h k=>decide_eq_false fun d=>?_⟩
 have h:=of_decide_eq_false h;have k:=of_decide_eq_false k;by_cases e:b.1=c.1
 ·rw[←e]at d;exact h d
 ·have f:=qh k e
  exact h (fR d f)
theorem aaU(x a:Pr):Ny aaB x a=decide (a.1=x.1):=by
 unfold Ny aaB;by_cases e:a.1=x.1
 ·rw[decide_eq_true e,e,decide_eq_false (co _)];rfl
 ·rw[decide_eq_false e]
  by_cases h:kl a.1 x.1
  ·rw[decide_eq_true h];rfl
  ·rw[decide_eq_false h,decide_eq_true (qh h e)];rfl
def mB(l:List Pr)(k:ByteArray):Option Pr:=(l.filter fun q=>decide (q.1=k)).getLast?
theorem wz(q:Pr)(l:List Pr)(k:ByteArray):mB (q::l) k=if q.1=k then some ((mB l k).getD q)else mB l k:=by
 unfold mB;rw[List.filter_cons];by_cases h:q.1=k
 ·rw[if_pos (decide_eq_true h),if_pos h,List.getLast?_cons]
 ·rw[if_neg (by simpa using h),if_neg h]
theorem WM{l:List Pr}{k:ByteArray}{p:Pr}(h:mB l k=some p):p.1=k:=by
 unfold mB at h;have:=gh h;exact of_decide_eq_true (eg.1 this).2
theorem F8{l:List Pr}{k:ByteArray}{p:Pr}(h:mB l k=some p):p∈l:=by
 unfold mB at h;exact(eg.1 (gh h)).1
theorem Ti{l:List Pr}{k:ByteArray}(h:∀q∈l,q.1≠k):mB l k=none:=by
 unfold mB;rw[List.filter_eq_nil_iff.2 fun q a=>by simpa using h q a];rfl
theorem Y0{l l':List Pr}(h:Eqf aaB l l')(k:ByteArray):mB l' k=mB l k:=by
 unfold mB;have:=h.flt (k,k);have e:∀m:List Pr,m.filter (Ny aaB (k,k))=m.filter fun q=>decide (q.1=k):=fun m=>List.filter_congr fun q _=>aaU (k,k) q
 rw[e,e]at this;rw[this]
def xb(l:List Pr):List Pr:=l.foldl (fun acc p=>hJ p acc) []
theorem Ge:∀(l:List Pr) {acc:List Pr},bS acc→bS (l.foldl (fun acc p=>hJ p acc) acc)∧∀p,p∈l.foldl (fun acc p=>hJ p acc) acc↔mB l p.1=some p∨(mB l p.1=none∧p∈acc)
 | [],acc,hr=>⟨hr,fun p=>by simp[mB]⟩
 |q::l,acc,hr=>by
  obtain⟨c,h2⟩:=Ge l (yw q hr);refine⟨c,fun p=>?_⟩
  rw[List.foldl_cons,h2 p,wz,uK hr];by_cases e:q.1=p.1
  ·rw[if_pos e]
   cases hl:mB l p.1 with
   |none=>
    simp only[Option.getD_none,Option.some.injEq,reduceCtorEq,false_or,false_and,or_false];constructor
    ·rintro⟨_,rfl|⟨_,h⟩⟩
     ·rfl
     ·exact absurd e.symm h
    ·rintro rfl;exact⟨trivial,.inl rfl⟩
   |some r=>simp
  ·rw[if_neg e]
   constructor
   ·rintro(h|⟨h,rfl|⟨a,_⟩⟩)
    ·exact .inl h
    ·exact absurd rfl e
    ·exact .inr ⟨h,a⟩
   ·rintro(h|⟨h,a⟩)
    ·exact .inl h
    ·exact .inr ⟨h,.inr ⟨a,fun b=>e b.symm⟩⟩
theorem BG(l:List Pr):bS (xb l):=(Ge l fT).1
theorem Ov{l:List Pr}{p:Pr}:p∈xb l↔mB l p.1=some p:=by
 have:=(Ge l (acc:= []) fT).2 p;unfold xb;rw[this];simp
def ol:List Pr→List Pr
 | []=> []
 | [p]=> [p]
 |p::q::l=>if q.1=p.1 then ol (q::l)else p::ol (q::l)
theorem uL(p q:Pr)(l:List Pr):ol (p::q::l)=if q.1=p.1 then ol (q::l)else p::ol (q::l):=rfl
theorem Dq:∀(l:List Pr),∀p∈ol l,p∈l
 | [],p,h=>h
 | [q],p,h=>h
 |q::r::l,p,h=>by
  rw[uL]at h;split at h
  ·exact aC _ (Dq (r::l) p h)
  ·rcases aB.1 h with rfl|h
   ·exact av ..
   ·exact aC _ (Dq (r::l) p h)
theorem M7:∀{l:List Pr},Srt aaB l→bS (ol l)∧∀p,p∈ol l↔mB l p.1=some p
 | [],_=>⟨fT,fun p=>by simp[ol,mB]⟩
 | [q],_=>⟨List.pairwise_singleton ..,fun p=>by
   show p∈[q]↔_
   rw[aF,wz]
   by_cases e:q.1=p.1
   ·rw[if_pos e];simp[mB,eq_comm]
   ·rw[if_neg e];simp only[mB,List.filter_nil,List.getLast?_nil,reduceCtorEq,iff_false]
    rintro rfl;exact e rfl⟩
 |p::q::l,hs=>by
  have c:=aA.1 hs;obtain⟨g,h2⟩:=M7 (l:=q::l) c.2;rw[uL];by_cases e:q.1=p.1
  ·rw[if_pos e]
   refine⟨g,fun r=>?_⟩
   rw[h2 r,wz p];by_cases a:p.1=r.1
   ·rw[if_pos a]
    have:mB (q::l) r.1≠none:=by
     rw[wz,if_pos (e.trans a)];simp
    cases hl:mB (q::l) r.1 with
    |none=>exact absurd hl this
    |some z=>simp
   ·rw[if_neg a]
  ·rw[if_neg e]
   have d:∀r∈q::l,kl p.1 r.1:=fun r f=>by
    have b:kl p.1 q.1:=by
     have:=of_decide_eq_false (c.1 q (av ..));exact qh this e
    rcases aB.1 f with rfl|f
    ·exact b
    ·have:=of_decide_eq_false ((aA.1 c.2).1 r f)
     by_cases a:r.1=q.1
     ·rw[a];exact b
     ·exact fR b (qh this a)
   refine⟨aA.2 ⟨fun r f=>d r (Dq _ r f),g⟩,fun r=>?_⟩
   rw[aB,h2 r,wz p];by_cases a:p.1=r.1
   ·rw[if_pos a]
    have k:mB (q::l) r.1=none:=Ti fun z j i=>by
     have:=d z j;rw[i,a]at this;exact co _ this
    rw[k];simp[eq_comm]
   ·rw[if_neg a]
    constructor
    ·rintro(rfl|h)
     ·exact absurd rfl a
     ·exact h
    ·exact .inr
theorem Th{l ys:List Pr}(h:St aaB l ys):ol ys=xb l:=by
 obtain⟨a,h2⟩:=M7 h.srt;refine yx a (BG l) fun p=>?_
 rw[h2 p,Ov,Y0 h.eqf]
theorem acY(M:Nat→Prop):Cmp aaB eu M (fun _=>True) (.func (.func vj) #[] #[]):=by
 refine⟨fun a b h K _ g=>HV.mk' (H0 a b ?_),fun _ h=>h⟩
 unfold Am az w9 rV;refine aW fun i b1 k1=>aW fun h2 b2 c=>?_
 have d:=c.get0 b1;refine⟨a.1,vc d 0,a.2,vc d 1,b.1,vc b2 0,?_⟩;refine QB fun f e=>g f _ ((k1.tr c).tr e) ?_
 unfold LH aaB;split
 ·rename_i h;rw[decide_eq_true h];rfl
 ·rename_i h
  rw[decide_eq_false h];split<;>rfl
theorem JH:∀(l:List Pr),(ol l).length≤l.length
 | []=>aj _
 | [_]=>aj _
 |p::q::l=>by
  rw[uL];have:=JH (q::l);split
  ·simp only[al]at this⊢;omega
  ·simp only[al]at this⊢;omega
theorem JA{h:ad}{t:TypeId}{p:Pr}{k:ad→Prop}(b:∀h',h'[h.size]? =some (.cells #[.string p.1,.string p.2] t (0,0))→Upd No h h'→k h'):
 At (hnew h [.string (⟨#[]⟩:ByteArray),.string (⟨#[]⟩:ByteArray)] t) (fun a=>wn a (some (aG h)) 0 [.string p.1,.string p.2]∧At (jj a (aG h) 0 [.string p.1,.string p.2]) k):=tG (p:=p) b
theorem Dd{N:Nat}(st:StP N)(hN:N≤100000000){W W':Nat→Prop}{h:ad}{s:SliceV}{l:List Pr}(hs:Sl eu 2 W h s l)(Y:∀y,W' y→y<h.size)(hn:l.length≤N){K:SliceV→ad→Prop}
  (hk:∀s' h',Sl eu 2 W' h' s' (xb l)→s'.len≤s'.cap→Upd No h h'→K s' h'):HC PG oa [.slice s.a s.len s.cap] [.c .slice] K h:=by
 refine LZ s ?_;unfold CM bE bX nv ay az lN is gD;refine yL hs (by omega) fun J h1 ho1 z=>?_
 refine st abS (acY _) ho1 trivial (by omega) fun h2 ys w D V=>?_
 have hyl:=D.eqf.len;have A:Upd No h h2:=z.trans V fun x hx=>.inr hx
 have hlen:=w.len;have o:=Th D;have z1:=z.size;have hll:=JH ys;refine LoopP.ghost (fun(g:List Pr×List Pr×List Pr) (t:Int×Int) h'=>t.1=(g.1.length:Int)∧t.2=((g.1.length+g.2.1.length:Nat):Int)∧g.1++ol g.2.2=ol ys∧g.1.length+g.2.1.length+g.2.2.length=ys.length∧OwnS eu 2 ao (fun b=>h.size≤b) h' J (g.1++(g.2.1++g.2.2))∧Upd No h h') (fun g=>g.2.2.length) ([],[],ys)
  ⟨rfl,rfl,rfl,by simp,w,A⟩ ?_
 rintro I ⟨R,G,T⟩ ⟨tn,ti⟩ h3 ⟨e1,H,j,k,d,C⟩ hI;simp only at e1 H j k d;subst e1 H;refine ax (fun hlt=>?_) fun hge=>?_
 ·match T with
  | []=>simp only[aJ]at k;omega
  |p::T=>
   simp only[al]at k;have ew:IntKind.wrap .i64 (((R.length+G.length:Nat):Int)+1)=((R.length+G.length+1:Nat):Int):=by rw[dI (by omega)];omega
   simp only;rw[ew];refine Join.intro (fun n' h'=>∃R' G',n'=(R'.length:Int)∧R'.length+G'.length=R.length+G.length+1∧R'++ol T=ol ys∧OwnS eu 2 ao (fun b=>h.size≤b) h' J (R'++(G'++T))∧Upd No h h') (fun Rj n=>?_) ?_
   ·obtain⟨a,E,hv⟩:=uw d (i:=R.length+G.length) (x:=p) (by rw[aN (by omega),cM,aN (aj _),dP];rfl)
    refine⟨⟨by omega,by omega⟩,a,E,p.1,hv 0 _ rfl,p.2,hv 1 _ rfl,?_⟩
    refine JA (p:=p) fun h4 S k4=>?_
    have f:=d.upd k4 fun _ _ h=>h
    have u:=C.tr k4;refine Join.intro (fun t h'=>h'=h4∧(t=true↔∃q v,T=q::v∧q.1=p.1)) (fun Rk B=>?_) ?_
    ·refine ax (fun hlt2=>?_) fun hge2=>B _ _ ⟨rfl,⟨fun h=>(by cases h),fun⟨q,v,e,_⟩=>(by subst e;simp only[al]at k;omega)⟩⟩
     rcases T with _|⟨q,T⟩
     ·simp only[aJ]at k;omega
     ·obtain⟨a',Z,hv'⟩:=uw f (i:=R.length+G.length+1) (x:=q) (by rw[aN (by omega),show R.length+G.length+1-R.length=G.length+1 by omega,aN (by omega),cM];rfl)
      refine⟨⟨by omega,by omega⟩,a',Z,q.1,hv' 0 _ rfl,p.1,vc S 0,B _ _ ⟨rfl,?_⟩⟩
      rw[fg,decide_eq_true_iff];exact⟨fun e=>⟨q,T,rfl,e⟩,fun⟨q',v,e,e'⟩=>by cases e;exact e'⟩
    ·rintro t h5 ⟨rfl,ht⟩
     ·cases t with
      |true=>
       obtain⟨q,v,rfl,eq⟩:=ht.1 rfl;refine au.2 (n _ _ ⟨R,G++ [p],rfl,by simp;omega,?_,by simpa using f,u⟩)
       rw[←j,uL,if_pos eq]
      |false=>
       have F:ol (p::T)=p::ol T:=by
        rcases T with _|⟨q,v⟩
        ·rfl
        ·rw[uL,if_neg fun e=>by have:=ht.2 ⟨q,v,rfl,e⟩;cases this]
       refine ag.2 ⟨p.1,vc S 0,p.2,vc S 1,⟨by omega,by omega⟩,a,E,?_⟩
       have ew2:IntKind.wrap .i64 ((R.length:Int)+1)=((R++ [p]).length:Int):=by rw[ac,aE,dI (by omega)];omega
       rw[ew2];rcases G with _|⟨g,G⟩
       ·rw[cz]at f
        refine mK f p E (by simp) fun h6 L Q=>n _ _ ⟨R++ [p],[],rfl,by simp,?_,by simpa using L,u.trans Q fun b O=>.inr O⟩
        rw[←j,F];simp
       ·have f1:R++((g::G)++p::T)=R++g::(G++p::T):=by simp
        rw[f1]at f;refine mK f p E (by simp) fun h6 L Q=>n _ _ ⟨R++ [p],G++ [p],rfl,by simp;omega,?_,by simpa using L,u.trans Q fun b O=>.inr O⟩
        rw[←j,F];simp
   ·rintro n' h6 ⟨R',G',rfl,hc6,P,M,X⟩
    exact hI (R',G',T) _ _ ⟨rfl,by simp only;rw[hc6],P,by simp only;omega,M,X⟩ (by simp)
 ·have F:T= []:=aw.1 (by omega)
  subst F;simp only[aJ]at k;simp only[ol,aL]at j d;have hcap:=d.cap;refine⟨⟨by simp only;omega,by simp only;omega⟩,?_⟩
  have U:=d.sl (W:=W') fun x hx _ hw=>by have:=Y x hw;omega
  have hA:=Sl.sub U (l:=0) (hi:=R.length) (m:=J.cap) (c:=J.cap-0) (aS _) (by simp) (by omega);have H:((R++G).drop 0).take (R.length-0)=xb l:=by rw[List.drop_zero,Nat.sub_zero,List.take_left];exact j.trans o
  rw[H]at hA;exact hk _ _ hA (by simp only;omega) C
theorem V0{W W':Nat→Prop}{h:ad}{s:SliceV}{l:List Pr}(c:Sl eu 2 W h s l)(a:∀y,W' y→y<h.size)(d:l.length≤10000000){K:SliceV→ad→Prop}
 (b:∀s' h',Sl eu 2 W' h' s' (xb l)→s'.len≤s'.cap→Upd No h h'→K s' h'):HC PG oa [.slice s.a s.len s.cap] [.c .slice] K h:=Dd stP (aj _) c a (by omega) b
end Go.Proofs
namespace Go.Proofs
open Go Go.Lift
theorem YE{β:Type}{g:Nat→Option β}{n:Nat}{y:β}:y∈fm g n↔∃c,c<n∧g c=some y:=by
 unfold fm;rw[List.mem_filterMap];exact⟨fun⟨c,a,h2⟩=>⟨c,g7.1 a,h2⟩,fun⟨c,a,h2⟩=>⟨c,g7.2 a,h2⟩⟩
def wl(x:Hs):Nat→List Pr→List Pr
 |0,l=>l
 |m+1,l=>ix x (12-m) l++(mA x (12-m) l).flatMap (wl x m)
theorem NR(x:Hs)(m:Nat)(l:List Pr):wl x (m+1) l=ix x (12-m) l++(mA x (12-m) l).flatMap (wl x m):=rfl
theorem JB{x:Hs}{p:Pr}:∀(m:Nat) {l:List Pr},p∈wl x m l↔p∈l
 |0,_=>Iff.rfl
 |m+1,l=>by
  rw[NR,bI,List.mem_flatMap];constructor
  ·rintro(h|⟨L,d,h⟩)
   ·exact tS h
   ·obtain⟨_,c,rfl⟩:=rM d
    exact(nM.1 ((JB m).1 h)).1
  ·intro h
   have hm:p∈part x (12-m) (ck x (12-m) p.1) l:=nM.2 ⟨h,rfl⟩;have hc:=Af x (12-m) p.1;rcases d:part x (12-m) (ck x (12-m) p.1) l with _|⟨a,_|⟨b,r⟩⟩
   ·rw[d]at hm;cases hm
   ·left
    rw[d]at hm;rw[aF.1 hm];unfold ix;exact YE.2 ⟨_,hc,by show kz (part x (12-m) (ck x (12-m) p.1) l)=_;rw[d];rfl⟩
   ·right
    refine⟨a::b::r,?_,(JB m).2 (by rw[←d];exact hm)⟩;unfold mA;exact YE.2 ⟨_,hc,by show fY (part x (12-m) (ck x (12-m) p.1) l)=_;rw[d];rfl⟩
theorem Q1{f:List Pr→List Pr}(h:∀l,(f l).length≤l.length):∀ls:List (List Pr),(ls.flatMap f).length≤ls.flatten.length
 | []=>aj _
 |l::ls=>by
  have a:=h l;have h2:=Q1 h ls;rw[aP,List.flatten_cons,ac,ac];omega
theorem NS(x:Hs):∀(m:Nat) (l:List Pr),(wl x m l).length≤l.length
 |0,_=>aj _
 |m+1,l=>by
  rw[NR,ac];have a:=yr x (12-m) l;have h2:=Q1 (NS x m) (mA x (12-m) l);omega
theorem abF{x:Hs}{m:Nat}{l:List Pr}(d:bS l):xb (wl x m l)=l:=by
 refine yx (BG _) d fun p=>?_
 rw[Ov];constructor
 ·intro h;exact(JB m).1 (F8 h)
 ·intro h
  have c:p∈(wl x m l).filter fun q=>decide (q.1=p.1):=eg.2 ⟨(JB m).2 h,decide_eq_true rfl⟩
  have a:mB (wl x m l) p.1≠none:=by
   unfold mB;intro e;rw[List.getLast?_eq_none_iff]at e;rw[e]at c;cases c
  cases hl:mB (wl x m l) p.1 with
  |none=>exact absurd hl a
  |some q=>
   have b:=WM hl;have h2:=(JB m).1 (F8 hl);have g:(p.1,q.2)∈l:=by rw[←b];exact h2
   have f:=Jl d (k:=p.1) (v:=p.2) (w:=q.2) h g;rw[Prod.ext b f.symm]
def cw(x:Hs):Nat→List Pr→Nat
 |0,_=>2
 |m+1,l=>2+((mA x (12-m) l).map (cw x m)).sum
structure Fr where
 sp:SliceV
 sk:SliceV
 n:Nat
 ps:List Pr
 ks:List (Nat×List Pr)
abbrev XC(v:SliceV×SliceV):List Value:= [sv v.1,sv v.2]
theorem YS(x:SliceV×SliceV):(XC x).length=2∧0<2:=⟨rfl,by omega⟩
def Fr.raw(f:Fr):SliceV×SliceV:=(f.sp,f.sk)
def Fr.rem(x:Hs)(f:Fr):List Pr:=f.ps++f.ks.flatMap fun k=>wl x (f.n-1) k.2
def Fr.cost(x:Hs)(f:Fr):Nat:=1+(f.ks.map fun k=>cw x (f.n-1) k.2).sum
def F1(x:Hs)(l:List Fr):List Pr:=l.reverse.flatMap (Fr.rem x)
def Hm(x:Hs)(l:List Fr):Nat:=(l.map (Fr.cost x)).sum
theorem BJ(x:Hs)(l:List Fr)(f:Fr):F1 x (l++ [f])=f.rem x++F1 x l:=by unfold F1;rw[List.reverse_append];rfl
theorem DG(x:Hs)(l:List Fr)(f:Fr):Hm x (l++ [f])=Hm x l+f.cost x:=by unfold Hm;rw[List.map_append,List.sum_append];simp
abbrev QK(k:Nat×List Pr):Option Addr:=some ⟨k.1,0,none⟩
structure Fr.Ok(W G:Nat→Prop)(x:Hs)(h:ad)(f:Fr):Prop where
 p:Sl eu 2 (fun y=>¬G y) h f.sp f.ps
 k:Sl uJ 1 (fun y=>¬G y) h f.sk (f.ks.map QK)
 pc:f.sp.len≤f.sp.cap
 kc:f.sk.len≤f.sk.cap
 t:∀k∈f.ks,TrieAt W x h (f.n-1) k.1 k.2∧k.2.length≤100000
 n0:f.ks≠[]→0<f.n
 n13:f.n≤13
theorem Fr.Ok.upd{W G M:Nat→Prop}{x:Hs}{h h':ad}{f:Fr}(o:f.Ok W G x h)(k:Upd M h h')(d:∀b,M b→W b∨h.size≤b)(a:∀b,M b→¬G b∨h.size≤b):f.Ok W G x h':=
 ⟨o.p.upd k a,o.k.upd k a,o.pc,o.kc,fun q c=>⟨TrieAt.updM k d (o.t q c).1,(o.t q c).2⟩,o.n0,o.n13⟩
theorem Fr.Ok.sub{W G G':Nat→Prop}{x:Hs}{h:ad}{f:Fr}(o:f.Ok W G x h)(d:∀b,G b→G' b):f.Ok W G' x h:=
 ⟨o.p.less fun b a=>.inl fun c=>a (d b c),o.k.less fun b a=>.inl fun c=>a (d b c),o.pc,o.kc,o.t,o.n0,o.n13⟩
abbrev acX(s:SliceV)(d:Int):Array Value:= #[sv s,.int .i64 d]
structure CurW(W G C:Nat→Prop)(x:Hs)(h:ad)(cb:Nat)(fs:List Fr):Prop where
 ex:∃s d,h[cb]? =some (.cells (acX s d) Ct (0,0))∧OwnS XC 2 eX C h s (fs.map Fr.raw)
 ok:∀f∈fs,f.Ok W G x h
 lt:∀b,(C b∨G b)→b<h.size
 dj:∀b,G b→¬C b∧b≠cb
 cc:¬C cb
 cw:(∀b,C b→W b)∧W cb
 lv:fs.Pairwise fun f g=>g.n<f.n
theorem CurW.upd{W G C M:Nat→Prop}{x:Hs}{h h':ad}{e:Nat}{i:List Fr}(c:CurW W G C x h e i)(k:Upd M h h')(q:∀b,M b→W b∨h.size≤b)(m:∀b,C b→¬M b)(o:∀b,G b→¬M b)(a:¬M e):CurW W G C x h' e i:=by
 obtain⟨s,d,j,h2⟩:=c.ex;exact⟨⟨s,d,k.get j a,h2.upd k m⟩,fun f p=>(c.ok f p).upd k q fun b g=>.inl fun n=>o b n g,fun b g=>Nat.lt_of_lt_of_le (c.lt b g) k.size,c.dj,c.cc,c.cw,c.lv⟩
theorem YF:∀{a:List Fr} {n:Nat},a.Pairwise (fun f g=>g.n<f.n)→(∀f∈a,f.n≤n)→a.length≤n+1
 | [],_,_,_=>aS _
 |f::a,n,b,hn=>by
  have b:=aA.1 b;have d:=hn f (av ..);rcases a with _|⟨g,a⟩
  ·simp
  ·have c:=b.1 g (av ..)
   have:=YF (n:=f.n-1) b.2 fun g c=>by have:=b.1 g c;omega
   rw[al];omega
theorem UY{α:Type}{f:α→List Value}{c:Nat}{t:TypeId}{M:Nat→Prop}{h:ad}{s:SliceV}{P Q:List α}{x y:α}{j:Nat}{v:Value}(m:OwnS f c t M h s (P++x::Q))(H:j<c)(D:f y=(f x).set j v){a:Addr}(A:s.a=some a){i:Nat}(hi:i=P.length){G:ad→Prop}(E:∀h',OwnS f c t M h' s (P++y::Q)→Upd M h h'→G h'):
  Wr h (adr (adr a (i*c)) j)∧At (hset h (adr (adr a (i*c)) j) v) G:=by
 subst hi;have o:=m.ne;have e:=m.len;have g:=m.cap;rcases m.blk with I|⟨b,d,k,w,hc,B⟩
 ·rw[ac,al]at e;omega
 rw[A]at k;cases k;have F:(P.flatMap f).length=P.length*c:=nr o P;rw[bR,aP]at hc;have J:=(o x).1;have C:adr (adr ⟨b,0,none⟩ (P.length*c)) j=⟨b,P.length*c+j,none⟩:=by rw[cp,cp,Nat.zero_add]
 rw[C];have p:P.length*c+j<(P.flatMap f++(f x++Q.flatMap f)++d).toArray.size:=by
  simp only[List.size_toArray,ac];omega
 refine⟨iw hc p,wK hc fun h' n q=>E h' ⟨by rw[e];simp,o,g,.inr ⟨b,d,A,w,?_,B⟩⟩ (q.mono fun z u=>.inl (by have u:z=b:=u;rw[u];exact w))⟩
 rw[n];congr 3
 rw[bR,aP,D];apply Array.toList_inj.1;rw[Array.toList_setIfInBounds];simp only[ar];rw[List.set_append_right _ _ (by omega),show P.length*c+j-(P.flatMap f).length=j by omega,List.set_append_left _ _ (by omega)]
theorem Na{W:Nat→Prop}{x:Hs}{h:ad}{m:Nat}:∀{ks:List (Option Addr)} {ls:List (List Pr)},KidsAt W x h m ks ls→∃q:List (Nat×List Pr),ks=q.map QK∧ls=q.map (·.2)∧∀k∈q,TrieAt W x h m k.1 k.2
 | [],[],_=>⟨[],rfl,rfl,fun k b=>by cases b⟩
 |_::_,[],h=>h.elim
 | [],_::_,h=>h.elim
 |k::ks,l::ls,b=>by
  obtain⟨⟨i,e,t⟩,c⟩:=b;obtain⟨q,f,d,g⟩:=Na c;refine⟨(i,l)::q,by rw[e,f];rfl,by rw[d];rfl,fun k' a=>?_⟩
  rcases aB.1 a with rfl|a
  ·exact t
  ·exact g k' a
theorem Mx{W:Nat→Prop}{x:Hs}{h:ad}{m b:Nat}{l:List Pr}(t:TrieAt W x h m b l)(hm:m≤13)(X:l.length≤100000){K:SliceV×SliceV→ad→Prop}
  (w:∀h' f,f.n=m→Fr.rem x f=wl x m l→f.cost x+1=cw x m l→f.Ok W (fun y=>h.size≤y∧y<h'.size) x h'→Upd No h h'→K f.raw h'):HC PG yG [.pointer (some ⟨b,0,none⟩)] [.agg [.slice,.slice]] K h:=by
 refine NI (some ⟨b,0,none⟩) ?_;unfold GI dy eW HP aco;refine aW fun j b1 k1=>?_
 have Q:=TrieAt.upd0 k1 (TrieAt.less (W':=Pro W h j) Pro.hm t);obtain⟨d,n,sp,sk,S,ow,C,q,z,o,p,hlp,hq,I,Z,D,N⟩:∃d n sp sk S ow C,∃q:List (Nat×List Pr),j[b]? =some (.cells (gc d n sp sk S ow) bU (0,0))∧Sl eu 2 (Pro W h j) j sp C∧Sl uJ 1 (Pro W h j) j sk (q.map QK)∧C.length≤100000∧q.length≤32∧(C++q.flatMap fun k=>wl x (m-1) k.2)=wl x m l∧2+(q.map fun k=>cw x (m-1) k.2).sum=cw x m l∧(∀k∈q,TrieAt (Pro W h j) x j (m-1) k.1 k.2∧k.2.length≤100000)∧(q≠[]→0<m):=by
  cases m with
  |zero=>
   obtain⟨sp,sk,ow,z,o,p,_⟩:=BuckAt.ex Q;exact⟨0,0,sp,sk,true,ow,l,[],z,o,p,X,by simp,by simp[wl],by simp[cw],fun k w=>(by cases w),fun h=>absurd rfl h⟩
  |succ m=>
   obtain⟨s,nd,G⟩:=Q;have G:∀c,c<32→SlotIs (Pro W h j) x j m s c (part x (12-m) c l):=G;obtain⟨d,n,sp,sk,ow,z,bits,o,p,_⟩:=nd.ex;have O:=Tm (W:=Pro W h j) (x:=x) (h:=j) (m:=m) (lev:=12-m) (s:=s) (l:=l) 32 G;obtain⟨q,T,F,e3⟩:=Na O;have F:mA x (12-m) l=q.map (·.2):=F
   have E:=Ie G;have hsl:=yr x (12-m) l;have U:=AS (g:=s.k);have Y:q.length=(fm s.k 32).length:=by rw[T,dw]
   refine⟨d,n,sp,sk,false,ow,fm s.p 32,q,z,o,by rw[←T];exact p,by rw[E];omega,by omega,?_,?_,fun k w=>⟨e3 k w,?_⟩,fun _=>Nat.succ_pos _⟩
   ·rw[NR,E,F,List.flatMap_map];rfl
   ·show _=2+_
    rw[F,List.map_map];rfl
   ·have:k.2∈mA x (12-m) l:=by rw[F];exact List.mem_map.2 ⟨k,w,rfl⟩
    obtain⟨_,c,hc⟩:=rM this;rw[hc];exact Nat.le_trans lx X
 refine r9 z o (by omega) fun J h2 A i=>?_
 refine Vp (i.get0 z) (p.upd i fun _ h=>h.elim) (by rw[dw];omega) fun L h3 B v=>?_
 have b3:=v.get0 (i.get0 b1);have z1:=k1.size;have z2:=i.size;have z3:=v.size;have zb:=bC b1;refine dH (c:= [.slice none 0 0,.slice none 0 0]) (vs:= [sv J,sv L]) b3 rfl fun V R u=>?_
 refine⟨J,vc R 0,L,vc R 1,?_⟩;have z4:=u.size;have P:Upd No h V:=((k1.tr i).tr v).own u (aj _);refine w V ⟨J,L,m,C,q⟩ rfl I (by unfold Fr.cost;simp only;omega) ⟨?_,?_,A.cap,B.cap,fun k w=>⟨TrieAt.less (W:=Pro W h j) (fun y a=>.inl (.inl a)) (TrieAt.updM (M:=(· =h.size)) u (fun y a=>.inl (.inr (by have a:y=h.size:=a;omega))) (TrieAt.upd0 (i.tr v) (D k w).1)),(D k w).2⟩,N,hm⟩ P
 ·exact(((A.upd v fun _ _ h=>h).within).upd u fun y a e=>by have e:y=h.size:=e;have:=a.1;omega).sl fun y a _ H=>H ⟨by have:=a.1;omega,by have:=a.2;omega⟩
 ·exact(B.within.upd u fun y a e=>by have e:y=h.size:=e;have:=a.1;omega).sl fun y a _ H=>H ⟨by have:=a.1;omega,by have:=a.2;omega⟩
end Go.Proofs
