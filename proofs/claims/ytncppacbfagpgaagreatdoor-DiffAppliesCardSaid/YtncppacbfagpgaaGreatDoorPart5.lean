/- A part of the proof that the named laws of this program answer true, whatever the input. -/
import Derived.Test.YtncppacbfagpgaaGreatDoorPart4
open List renaming length_append→ac,length_nil→aG,length_cons→ao,length_eq_zero_iff→ay,append_nil→aL,nil_append→cB,take_append_drop→aI,length_take→aH,length_drop→aV,append_assoc→ar,mem_singleton→aD,length_singleton→aE,getElem?_eq_some_iff→bM,getElem?_eq_getElem→af,getElem_of_mem→bC,getElem?_append_left→bQ,getElem?_append_right→aN
open Nat renaming eq_zero_or_pos→cE,le_refl→al,add_sub_cancel_left→cH,sub_self→dP
namespace Go.Proofs
open Go Go.Lift
theorem wX{M:Nat→Prop}{h:ae}{s:SliceV}{A U C V B:List (Pr)}(P:OwnS eC 2 aq M h s (A++(U++(C++(V++B)))))(hn:s.len≤1000000000)(f:U.length=V.length){a b:Nat}(e:a=A.length)(o:b=A.length+U.length+C.length){n:Nat}(z:n=U.length){k:Value}{K:Unit→ae→Prop}
  (N:∀h',OwnS eC 2 aq M h' s (A++(V++(C++(U++B))))→Upd M h h'→K () h'):HC PG dT [.slice s.a s.len s.cap,.int .i64 a,.int .i64 b,.int .i64 n,k] [] K h:=by
 subst e o z;refine pR s A.length (A.length+U.length+C.length:Nat) U.length k ?_;unfold j6 bI cl hP lP;have d:=P.len;simp only[ac]at d;refine LoopP.ghost (fun(g:(List (Pr)×List (Pr))×List (Pr)×List (Pr)) (t:Int) h'=>t=(g.1.1.length:Int)∧U=g.1.1++g.1.2∧V=g.2.1++g.2.2∧g.1.1.length=g.2.1.length∧OwnS eC 2 aq M h' s (A++(g.2.1++(g.1.2++(C++(g.1.1++(g.2.2++B))))))∧Upd M h h') (fun g=>g.1.2.length) (([],U),[],V)
  ⟨rfl,rfl,rfl,rfl,P,Upd.refl _ _⟩ ?_
 rintro I ⟨⟨U1,U2⟩,V1,V2⟩ t h' ⟨L,O,Q,F,c,E⟩ X;simp only at L O Q F c;subst L O Q;simp only[ac]at f d;refine az (fun p=>?_) fun x=>?_
 ·simp only[ac]at p
  match U2,V2 with
  | [],_=>simp only[aG]at p;omega
  |_::_,[]=>simp only[aG,ao]at f;omega
  |u::U2,v::V2=>
   simp only[ao]at f d;simp only[ac,ao];have y:IntKind.wrap .i64 (((A.length+(U1.length+(U2.length+1))+C.length:Nat):Int)+(U1.length:Int))=((A.length+(U1.length+(U2.length+1))+C.length+U1.length:Nat):Int):=by rw[fx (by omega)];omega
   have D:IntKind.wrap .i64 ((A.length:Int)+(U1.length:Int))=((A.length+U1.length:Nat):Int):=by rw[fx (by omega)];omega
   rw[y,D];have R:A++(V1++((u::U2)++(C++(U1++((v::V2)++B)))))=(A++V1)++u::(U2++(C++(U1++(v::V2++B)))):=by simp
   have T:(A++V1)++u::(U2++(C++(U1++(v::V2++B))))=((A++V1)++u::(U2++(C++U1)))++v::(V2++B):=by simp
   have Z:(A++V1)++v::(U2++(C++(U1++(v::V2++B))))=((A++V1)++v::(U2++(C++U1)))++v::(V2++B):=by simp
   have S:((A++V1)++v::(U2++(C++U1)))++u::(V2++B)=A++((V1++ [v])++(U2++(C++((U1++ [u])++(V2++B))))):=by simp
   rw[R]at c;obtain⟨a,e,q⟩:=fG c (i:=A.length+U1.length) (by rw[ac];omega);have j:=c;rw[T]at j;obtain⟨a',m,w⟩:=fG j (i:=A.length+(U1.length+(U2.length+1))+C.length+U1.length) (by simp only[ac,ao];omega);rw[e]at m;cases m;refine⟨⟨by omega,by omega⟩,a,e,v.1,w 0 _ rfl,v.2,w 1 _ rfl,⟨by omega,by omega⟩,a,e,u.1,q 0 _ rfl,u.2,q 1 _ rfl,⟨by omega,by omega⟩,a,e,?_⟩
   refine lZ c v e (by rw[ac];omega) fun h2 J W=>⟨⟨by omega,by omega⟩,a,e,?_⟩
   rw[Z]at J;refine lZ J u e (by first|omega|(simp;done)|(simp;omega)) fun h3 G Y=>?_
   rw[S]at G;rw[fy (n:=U1.length+(U2.length+1)) (by omega) (by omega)];exact X ((U1++ [u],U2),V1++ [v],V2) _ _ ⟨by simp,by simp,by simp,by simp[F],G,(E.trans W fun b o=>.inl o).trans Y fun b o=>.inl o⟩ (by simp)
 ·simp only[ac]at x
  have H:U2= []:=ay.1 (by omega);have h2:V2= []:=ay.1 (by rw[H,aG]at f;omega);subst H h2;simp only[aL,cB]at c N;exact N h' c E
theorem QY{M:Nat→Prop}{h:ae}{s:SliceV}{A U V B:List (Pr)}(Q:OwnS eC 2 aq M h s (A++(U++(V++B))))(O:s.len≤1000000000)(Y:0<U.length)(X:0<V.length){a m b:Nat}(S:a=A.length)(hm:m=A.length+U.length)(p:b=A.length+U.length+V.length){u:Value}{K:Unit→ae→Prop}
  (W:∀h',OwnS eC 2 aq M h' s (A++(V++(U++B)))→Upd M h h'→K () h'):HC PG ie [.slice s.a s.len s.cap,.int .i64 a,.int .i64 m,.int .i64 b,u] [] K h:=by
 subst S hm p;refine rD s A.length (A.length+U.length:Nat) (A.length+U.length+V.length:Nat) u ?_;unfold lz;have C:=Q.len;simp only[ac]at C;have D:IntKind.wrap .i64 (((A.length+U.length:Nat):Int)-(A.length:Int))=(U.length:Int):=by rw[fx (by omega)];omega
 have E:IntKind.wrap .i64 (((A.length+U.length+V.length:Nat):Int)-((A.length+U.length:Nat):Int))=(V.length:Int):=by rw[fx (by omega)];omega
 rw[D,E];refine LoopP.ghost (fun(g:(List (Pr)×List (Pr))×List (Pr)×List (Pr)) (t:Int×Int) h'=>t.1=(g.1.2.length:Int)∧t.2=(g.2.1.length:Int)∧0<g.1.2.length∧0<g.2.1.length∧A.length+U.length=g.1.1.length+g.1.2.length∧g.1.1++(g.2.1++(g.1.2++g.2.2))=A++(V++(U++B))∧OwnS eC 2 aq M h' s (g.1.1++(g.1.2++(g.2.1++g.2.2)))∧Upd M h h') (fun g=>g.1.2.length+g.2.1.length) ((A,U),V,B)
  ⟨rfl,rfl,Y,X,rfl,rfl,Q,Upd.refl _ _⟩ ?_
 rintro I ⟨⟨A',U'⟩,V',f⟩ ⟨ti,tj⟩ h' ⟨D,E,J,F,k,e,c,H⟩ P;simp only at D E J F k e c;subst D E;have d:=c.len;simp only[ac]at d;have G:((A.length+U.length:Nat):Int)=((A'.length+U'.length:Nat):Int):=by omega
 rw[G];have R:IntKind.wrap .i64 (((A'.length+U'.length:Nat):Int)-(U'.length:Int))=(A'.length:Int):=by rw[fx (by omega)];omega
 simp only;rw[R];refine CondP.intro (fun j=>?_) fun y=>?_
 ·have j:(U'.length:Int)≠(V'.length:Int):=by simpa using j
  refine az (fun z=>?_) fun Z=>?_
  ·
   have z:V'.length<U'.length:=by omega
   obtain⟨U1,U2,rfl,i⟩:∃U1 U2,U'=U1++U2∧U1.length=V'.length:=⟨U'.take V'.length,U'.drop V'.length,(aI ..).symm,by rw[aH];omega⟩
   simp only[ac]at z d k j R;have v:A'++((U1++U2)++(V'++f))=A'++(U1++(U2++(V'++f))):=by simp
   have T:A'++(V'++(U2++(U1++f)))=(A'++V')++(U2++(U1++f)):=by simp
   rw[v]at c;refine wX c O i rfl (b:=A'.length+(U1++U2).length) (by simp only[ac];omega) (n:=V'.length) i.symm fun h2 q w=>?_
   rw[T]at q;have o:IntKind.wrap .i64 (((U1++U2).length:Int)-(V'.length:Int))=(U2.length:Int):=by rw[ac,fx (by omega)];omega
   rw[o];refine P ((A'++V',U2),U1,f) _ _ ⟨rfl,by simp only;omega,by simp only;omega,by simp only;omega,by simp only[ac];omega,?_,q,H.trans w fun b p=>.inl p⟩ (by simp only[ac];omega)
   rw[←e];simp
  ·have N:U'.length<V'.length:=by omega
   obtain⟨V1,V2,rfl,i⟩:∃V1 V2,V'=V1++V2∧V2.length=U'.length:=⟨V'.take (V'.length-U'.length),V'.drop (V'.length-U'.length),(aI ..).symm,by rw[aV];omega⟩
   simp only[ac]at N d j;have o:IntKind.wrap .i64 ((IntKind.wrap .i64 (((A'.length+U'.length:Nat):Int)+((V1++V2).length:Int)))-(U'.length:Int))=((A'.length+U'.length+V1.length:Nat):Int):=by
    rw[ac,fx (x:=((A'.length+U'.length:Nat):Int)+((V1.length+V2.length:Nat):Int)) (by omega),fx (by omega)];omega
   rw[o];have v:A'++(U'++((V1++V2)++f))=A'++(U'++(V1++(V2++f))):=by simp
   rw[v]at c;refine wX c O i.symm rfl rfl rfl fun h2 q w=>?_
   have L:IntKind.wrap .i64 (((V1++V2).length:Int)-(U'.length:Int))=(V1.length:Int):=by rw[ac,fx (by omega)];omega
   rw[L];refine P ((A',V2),V1,U'++f) _ _ ⟨by simp only;omega,rfl,by simp only;omega,by simp only;omega,by simp only;omega,?_,q,H.trans w fun b p=>.inl p⟩ (by simp only[ac];omega)
   rw[←e];simp
 ·have y:(U'.length:Int)=(V'.length:Int):=by simpa using y
  have v:A'++(U'++(V'++f))=A'++(U'++([]++(V'++f))):=by simp
  rw[v]at c;refine wX c O (by omega) rfl (b:=A'.length+U'.length) (by simp) rfl fun h2 q w=>?_
  rw[cB,e]at q;exact W h2 q (H.trans w fun b p=>.inl p)
theorem Ge{lt:Pr→Pr→Bool}(w:WO lt){M:Nat→Prop}{Iv:ae→Prop}{v:Value}(hc:Cmp lt eC M Iv v){h:ae}{s:SliceV}{A S B:List (Pr)}(ho:OwnS eC 2 aq M h s (A++(S++B)))(hi:Iv h)(hn:s.len≤1000000000){a b:Nat}(c:a=A.length)(J:b=A.length+S.length){K:Unit→ae→Prop}
  (hk:∀h' R,OwnS eC 2 aq M h' s (A++(R++B))→St lt S R→Upd M h h'→K () h'):HC PG eD [.slice s.a s.len s.cap,.int .i64 a,.int .i64 b,v] [] K h:=by
 subst c J;refine nR s A.length (A.length+S.length:Nat) v ?_;unfold jn bI cl aK ld hP qO lP;have f:=ho.len;simp only[ac]at f;have ea:IntKind.wrap .i64 ((A.length:Int)+1)=((A.length+1:Nat):Int):=by rw[fx (by omega)];omega
 rw[ea];refine LoopP.ghost (fun(g:List (Pr)×List (Pr)×List (Pr)) (t:Int) h'=>t=((A.length+max 1 g.1.length:Nat):Int)∧S=g.1++g.2.2∧(g.1= []→g.2.2= [])∧St lt g.1 g.2.1∧OwnS eC 2 aq M h' s (A++(g.2.1++(g.2.2++B)))∧Upd M h h') (fun g=>g.2.2.length) (S.take 1,S.take 1,S.drop 1)
  ⟨?_,(aI ..).symm,fun e=>?_,⟨Eqf.rfl _,?_⟩,by rw[←ar (S.take 1),aI];exact ho,Upd.refl _ _⟩ ?_
 ·simp only[aH];omega
 ·have:=congrArg List.length e
  simp only[aH,aG]at this;exact ay.1 (by simp only[aV];omega)
 ·match S with
  | []=>exact Srt.nil
  |x::S=>exact Srt.one x
 rintro I ⟨S1,R1,T⟩ t h' ⟨N,P,m,j,o,hu⟩ hI;simp only at N P m j o;subst N P;simp only[ac]at f;have X:=j.eqf.len;refine az (fun D=>?_) fun hge=>?_
 ·simp only[ac]at D
  have W:S1≠[]:=fun e=>by
   have:=m e;subst e;subst this;simp only[aG]at D;omega
  have hS1l:0<S1.length:=List.length_pos_iff.2 W;match T with
  | []=>simp only[aG]at D;omega
  |x::T=>
   have H:A.length+max 1 S1.length=A.length+S1.length:=by omega
   rw[H];refine LoopP.ghost (fun(g:List (Pr)×List (Pr)) (t:Int) h2=>t=((A.length+g.1.length:Nat):Int)∧R1=g.1++g.2∧(∀y∈g.2,lt x y=true)∧OwnS eC 2 aq M h2 s (A++(g.1++(x::(g.2++(T++B)))))∧Upd M h h2) (fun g=>g.1.length) (R1,[])
    ⟨by simp only;omega,by simp,fun y n=>(by cases n),by simpa using o,hu⟩ ?_
   rintro I2 ⟨L,G⟩ t2 h2 ⟨N,P,Y,k,C⟩ hI2;simp only at N P Y k;subst N P;simp only[ac]at X;simp only[ao]at f;refine Join.intro (fun t h3=>Upd M h h3∧OwnS eC 2 aq M h3 s (A++(L++(x::(G++(T++B)))))∧(t=true→∃L' y,L=L'++ [y]∧lt x y=true)∧(t=false→∀y∈L,lt x y=false)) (fun Rj Q=>?_) ?_
   ·refine az (fun hgt=>?_) fun hle=>?_
    ·rcases AL L with rfl|⟨L',y,rfl⟩
     ·simp only[aG]at hgt;omega
     have u:(L'++ [y]).length=L'.length+1:=by simp
     have U:IntKind.wrap .i64 (((A.length+(L'++ [y]).length:Nat):Int)-1)=((A.length+L'.length:Nat):Int):=by rw[u,fx (by omega)];omega
     rw[U];have F:A++((L'++ [y])++(x::(G++(T++B))))=(A++L')++y::(x::(G++(T++B))):=by simp
     have Z:A++((L'++ [y])++(x::(G++(T++B))))=(A++(L'++ [y]))++x::(G++(T++B)):=by simp
     have o3:=k;have E:=k;rw[F]at o3;rw[Z]at E;obtain⟨a,c,n⟩:=fG o3 (i:=A.length+L'.length) (by first|omega|(simp;done)|(simp;omega))
     obtain⟨a',d,hx⟩:=fG E (i:=A.length+(L'++ [y]).length) (by first|omega|(simp;done)|(simp;omega))
     rw[c]at d;cases d;refine⟨⟨by omega,by omega⟩,a,c,x.1,hx 0 _ rfl,x.2,hx 1 _ rfl,⟨by omega,by omega⟩,a,c,y.1,n 0 _ rfl,y.2,n 1 _ rfl,?_⟩
     refine hc.call x y (hc.step C hi) fun h5 e V he=>?_
     rw[he];have ho5:=k.upd V fun _ _ h=>h
     refine Q _ _ ⟨C.tr V.wide,ho5,fun h=>⟨L',y,rfl,h⟩,fun h z p=>?_⟩
     have hs:=j.srt.left;rcases List.mem_append.1 p with p|p
     ·exact w.ntr x y z h (hs.cross z p y (aD.2 rfl))
     ·rw[aD.1 p];exact h
    ·have hL:L= []:=ay.1 (by omega)
     exact Q _ _ ⟨C,k,fun h=>(by cases h),fun _ y n=>(by rw[hL]at n;cases n)⟩
   ·rintro t3 h3 ⟨O,q,ht,hf⟩
    cases t3 with
    |true=>
     obtain⟨L',y,rfl,hxy⟩:=ht rfl;have u:(L'++ [y]).length=L'.length+1:=by simp
     refine au.2 ?_;have U:IntKind.wrap .i64 (((A.length+(L'++ [y]).length:Nat):Int)-1)=((A.length+L'.length:Nat):Int):=by rw[u,fx (by omega)];omega
     rw[U];have F:A++((L'++ [y])++(x::(G++(T++B))))=(A++L')++y::(x::(G++(T++B))):=by simp
     have Z:(A++L')++y::(x::(G++(T++B)))=(A++(L'++ [y]))++x::(G++(T++B)):=by simp
     have f3:(A++(L'++ [y]))++y::(G++(T++B))=(A++L')++y::(y::(G++(T++B))):=by simp
     have f4:(A++L')++x::(y::(G++(T++B)))=A++(L'++(x::((y::G)++(T++B)))):=by simp
     rw[F]at q;have E:=q;rw[Z]at E;obtain⟨a,c,n⟩:=fG q (i:=A.length+L'.length) (by first|omega|(simp;done)|(simp;omega))
     obtain⟨a',d,hx⟩:=fG E (i:=A.length+(L'++ [y]).length) (by first|omega|(simp;done)|(simp;omega))
     rw[c]at d;cases d;refine⟨⟨by omega,by omega⟩,a,c,y.1,n 0 _ rfl,y.2,n 1 _ rfl,⟨by omega,by omega⟩,a,c,x.1,hx 0 _ rfl,x.2,hx 1 _ rfl,⟨by omega,by omega⟩,a,c,?_⟩
     refine lZ E y c (by first|omega|(simp;done)|(simp;omega)) fun h5 o5 V=>⟨⟨by omega,by omega⟩,a,c,?_⟩
     rw[f3]at o5;refine lZ o5 x c (by first|omega|(simp;done)|(simp;omega)) fun h6 o6 k6=>?_
     rw[f4]at o6;refine hI2 (L',y::G) _ _ ⟨rfl,by simp,fun z p=>?_,o6,(O.trans V fun b J=>.inl J).trans k6 fun b J=>.inl J⟩ (by simp only[u];omega)
     rcases List.mem_cons.1 p with rfl|p
     ·exact hxy
     ·exact Y z p
    |false=>
     refine aj.2 ?_;have U:IntKind.wrap .i64 (((A.length+S1.length:Nat):Int)+1)=((A.length+max 1 (S1.length+1):Nat):Int):=by rw[fx (by omega)];omega
     rw[U];refine hI (S1++ [x],L++x::G,T) _ _ ⟨by simp,by simp,fun e=>(by simp at e),MQ w j (hf rfl) Y,?_,O⟩ (by simp)
     have F:A++((L++x::G)++(T++B))=A++(L++(x::(G++(T++B)))):=by simp
     rw[F];exact q
 ·simp only[ac]at hge
  have hT:T= []:=by
   rcases cE S1.length with h0|h0
   ·exact m (ay.1 h0)
   ·exact ay.1 (by omega)
  subst hT;rw[cB]at o;rw[aL]at hk;exact hk h' R1 o j hu
theorem CT{lt:Pr→Pr→Bool}(w:WO lt){M:Nat→Prop}{Iv:ae→Prop}{cmp:Value}(hc:Cmp lt eC M Iv cmp){s:SliceV}(hn:s.len≤1000000000):∀(n:Nat) {h:ae} {A U V B:List (Pr)},U.length+V.length≤n→OwnS eC 2 aq M h s (A++(U++(V++B)))→Iv h→0<U.length→0<V.length→Srt lt U→Srt lt V→∀{a m b:Nat},a=A.length→m=A.length+U.length→b=A.length+U.length+V.length→∀{K:Unit→ae→Prop},
  (∀h' R,OwnS eC 2 aq M h' s (A++(R++B))→St lt (U++V) R→Upd M h h'→K () h')→HC PG di [.slice s.a s.len s.cap,.int .i64 a,.int .i64 m,.int .i64 b,cmp] [] K h:=by
 intro n;induction n with
 |zero=>intro h A U V B hl _ _ hU;omega
 |succ n ih=>
  intro h A U V B hl ho hi hU hV sU sV a m b ha hm N K hk;refine qv s a m b cmp ?_;unfold kI bI cl aK ld hP qO lP;have z:=ho.len;simp only[ac]at z;have e1:IntKind.wrap .i64 ((m:Int)-(a:Int))=(U.length:Int):=by rw[fx (by omega)];omega
  have e2:IntKind.wrap .i64 ((b:Int)-(m:Int))=(V.length:Int):=by rw[fx (by omega)];omega
  rw[e1,e2];refine CondP.intro (fun J=>?_) fun hmore=>?_
  ·have J:U.length=1:=by have:=eq_of_beq J;omega
   match U,J with
   | [u],_=>
   simp only[aE]at z hm N;refine LoopP.ghost (fun(g:Nat×Nat) (t:Int×Int) h'=>t.1=(g.1:Int)∧t.2=(g.2:Int)∧m≤g.1∧g.1≤g.2∧g.2≤b∧(∀q x,V[q]? =some x→m+q<g.1→lt x u=true)∧(∀q x,V[q]? =some x→g.2≤m+q→lt x u=false)∧OwnS eC 2 aq M h' s (A++([u]++(V++B)))∧Upd M h h') (fun g=>g.2-g.1) (m,b)
    ⟨rfl,rfl,al _,by simp only;omega,al _,fun q x D h=>(by simp only at h;omega),fun q x D h=>(by have:=(bM.1 D).1;simp only at h;omega),ho,Upd.refl _ _⟩ ?_
   rintro I ⟨i,j⟩ ⟨ti,tj⟩ h' ⟨e1,e2,hmi,F,hjb,H,L,G,hu⟩ hI;simp only at e1 e2 hmi F hjb H L;subst e1 e2;refine az (fun S=>?_) fun hge=>?_
   ·have S:i<j:=by have:(i:Int)<(j:Int):=S;omega
    refine⟨by decide,?_⟩;simp only[Bd];rw[vX (by omega)];have Y:(i+j)/2-m<V.length:=by omega
    have hk0:(i+j)/2=A.length+1+((i+j)/2-m):=by omega
    obtain⟨W,f,hx⟩:=tg G (i:=(i+j)/2) (x:=V[(i+j)/2-m]) (Nr (U:= [u]) (k:=(i+j)/2-m) (by simp only[aE];omega) (af Y));obtain⟨a2,C,hy⟩:=fG (P:=A) (x:=u) (Q:=V++B) G ha;rw[f]at C;cases C;have hVk:V[(i+j)/2-m]? =some V[(i+j)/2-m]:=af Y;generalize V[(i+j)/2-m]=x at hx hVk;refine⟨⟨by omega,by omega⟩,W,f,x.1,hx 0 _ rfl,x.2,hx 1 _ rfl,⟨by omega,by omega⟩,W,f,u.1,hy 0 _ rfl,u.2,hy 1 _ rfl,?_⟩
    refine hc.call x u (hc.step hu hi) fun T e k5 he=>?_
    rw[he];have X:=G.upd k5 fun _ _ h=>h
    have hu5:=hu.tr k5.wide;cases hxu:lt x u with
    |true=>
     refine au.2 ?_;have ew:IntKind.wrap .i64 ((((i+j)/2:Nat):Int)+1)=(((i+j)/2+1:Nat):Int):=by rw[fx (by omega)];omega
     rw[ew];refine hI ((i+j)/2+1,j) _ _ ⟨rfl,rfl,by simp only;omega,by simp only;omega,hjb,fun q y D hqi=>?_,L,X,hu5⟩ (by simp only;omega)
     have hle:=jX w sV (i:=q) (j:=(i+j)/2-m) (by simp only at hqi;omega) D hVk;cases hyu:lt y u with
     |true=>rfl
     |false=>rw[w.ntr _ _ _ hle hyu]at hxu;cases hxu
    |false=>
     refine aj.2 ?_;refine hI (i,(i+j)/2) _ _ ⟨rfl,rfl,hmi,by simp only;omega,by simp only;omega,H,fun q y D hqi=>?_,X,hu5⟩ (by simp only;omega)
     have hle:=jX w sV (i:=(i+j)/2-m) (j:=q) (by simp only at hqi;omega) hVk D;exact w.ntr _ _ _ hle hxu
   ·have F:i=j:=by have:¬(i:Int)<(j:Int):=hge;omega
    subst F;obtain⟨V1,V2,rfl,hV1⟩:∃V1 V2,V=V1++V2∧V1.length=i-m:=⟨V.take (i-m),V.drop (i-m),(aI ..).symm,by rw[aH];omega⟩
    simp only[ac]at z N;have lo1:∀x∈V1,lt x u=true:=fun x hx=>by
     obtain⟨q,D,e⟩:=bC hx;exact H q x (by rw[bQ D,af D,e]) (by omega)
    have hi1:∀x∈V2,lt x u=false:=fun x hx=>by
     obtain⟨q,D,e⟩:=bC hx;exact L (V1.length+q) x (by rw[aN (by omega),cH,af D,e]) (by omega)
    have hst:=CV w sV lo1 hi1;have f0:A++([u]++((V1++V2)++B))=A++([]++(u::(V1++(V2++B)))):=by simp
    rw[f0]at G;have ew:IntKind.wrap .i64 ((i:Int)-1)=((A.length+V1.length:Nat):Int):=by rw[fx (by omega)];omega
    rw[ew];refine LoopP.ghost (fun(g:List (Pr)×List (Pr)) (t:Int) h2=>t=((A.length+g.1.length:Nat):Int)∧V1=g.1++g.2∧OwnS eC 2 aq M h2 s (A++(g.1++(u::(g.2++(V2++B)))))∧Upd M h h2) (fun g=>g.2.length) ([],V1)
     ⟨by simp[ha],rfl,G,hu⟩ ?_
    rintro I2 ⟨G1,E⟩ t2 h2 ⟨e1,e2,o,O⟩ hI2;simp only at e1 e2 o;subst e1 e2;simp only[ac]at z N ew⊢;refine az (fun S=>?_) fun hge=>?_
    ·match E with
     | []=>simp only[aG]at S;omega
     |g::E=>
      simp only[ao]at z;have ew1:IntKind.wrap .i64 (((A.length+G1.length:Nat):Int)+1)=((A.length+G1.length+1:Nat):Int):=by rw[fx (by omega)];omega
      rw[ew1];have f1:A++(G1++(u::((g::E)++(V2++B))))=(A++G1)++u::(g::(E++(V2++B))):=by simp
      have f2:(A++G1)++u::(g::(E++(V2++B)))=(A++(G1++ [u]))++g::(E++(V2++B)):=by simp
      have f3:(A++G1)++g::(g::(E++(V2++B)))=(A++(G1++ [g]))++g::(E++(V2++B)):=by simp
      have f4:(A++(G1++ [g]))++u::(E++(V2++B))=A++((G1++ [g])++(u::(E++(V2++B)))):=by simp
      rw[f1]at o;have o3:=o;rw[f2]at o3;obtain⟨W,f,hy⟩:=fG o3 (i:=A.length+G1.length+1) (by first|omega|(simp;done)|(simp;omega))
      obtain⟨a2,C,hx⟩:=fG o (i:=A.length+G1.length) (by first|omega|(simp;done)|(simp;omega))
      rw[f]at C;cases C;refine⟨⟨by omega,by omega⟩,W,f,g.1,hy 0 _ rfl,g.2,hy 1 _ rfl,⟨by omega,by omega⟩,W,f,u.1,hx 0 _ rfl,u.2,hx 1 _ rfl,⟨by omega,by omega⟩,W,f,?_⟩
      refine lZ o g f (by first|omega|(simp;done)|(simp;omega)) fun T o5 k5=>⟨⟨by omega,by omega⟩,W,f,?_⟩
      rw[f3]at o5;refine lZ o5 u f (by first|omega|(simp;done)|(simp;omega)) fun h6 o6 k6=>?_
      rw[f4]at o6;exact hI2 (G1++ [g],E) _ _ ⟨by simp;omega,by simp,o6,(O.trans k5 fun b N=>.inl N).trans k6 fun b N=>.inl N⟩ (by simp)
    ·have hG:E= []:=ay.1 (by omega)
     subst hG;simp only[aL,cB]at o hst hk;refine hk h2 (G1++u::V2) ?_ hst O;have f1:A++((G1++u::V2)++B)=A++(G1++(u::(V2++B))):=by simp
     rw[f1];exact o
  refine CondP.intro (fun J=>?_) fun hmore2=>?_
  ·have J:V.length=1:=by have:=eq_of_beq J;omega
   match V,J with
   | [v],_=>
   simp only[aE]at z N;refine LoopP.ghost (fun(g:Nat×Nat) (t:Int×Int) h'=>t.1=(g.1:Int)∧t.2=(g.2:Int)∧a≤g.1∧g.1≤g.2∧g.2≤m∧(∀q x,U[q]? =some x→a+q<g.1→lt v x=false)∧(∀q x,U[q]? =some x→g.2≤a+q→lt v x=true)∧OwnS eC 2 aq M h' s (A++(U++([v]++B)))∧Upd M h h') (fun g=>g.2-g.1) (a,m)
    ⟨rfl,rfl,al _,by simp only;omega,al _,fun q x D h=>(by simp only at h;omega),fun q x D h=>(by have:=(bM.1 D).1;simp only at h;omega),ho,Upd.refl _ _⟩ ?_
   rintro I ⟨i,j⟩ ⟨ti,tj⟩ h' ⟨e1,e2,hmi,F,hjb,H,L,G,hu⟩ hI;simp only at e1 e2 hmi F hjb H L;subst e1 e2;refine az (fun S=>?_) fun hge=>?_
   ·have S:i<j:=by have:(i:Int)<(j:Int):=S;omega
    refine⟨by decide,?_⟩;simp only[Bd];rw[vX (by omega)];have Y:(i+j)/2-a<U.length:=by omega
    obtain⟨W,f,hx⟩:=tg G (i:=(i+j)/2) (x:=U[(i+j)/2-a]) (Ho (k:=(i+j)/2-a) (by omega) (af Y));have f1:A++(U++([v]++B))=(A++U)++v::B:=by simp
    have o3:=G;rw[f1]at o3;obtain⟨a2,C,hy⟩:=fG o3 (i:=m) (by first|omega|(simp;done)|(simp;omega))
    rw[f]at C;cases C;have hVk:U[(i+j)/2-a]? =some U[(i+j)/2-a]:=af Y;generalize U[(i+j)/2-a]=x at hx hVk;refine⟨⟨by omega,by omega⟩,W,f,v.1,hy 0 _ rfl,v.2,hy 1 _ rfl,⟨by omega,by omega⟩,W,f,x.1,hx 0 _ rfl,x.2,hx 1 _ rfl,?_⟩
    refine hc.call v x (hc.step hu hi) fun T e k5 he=>?_
    rw[he];have X:=G.upd k5 fun _ _ h=>h
    have hu5:=hu.tr k5.wide;cases hxu:lt v x with
    |false=>
     refine au.2 ?_;have ew:IntKind.wrap .i64 ((((i+j)/2:Nat):Int)+1)=(((i+j)/2+1:Nat):Int):=by rw[fx (by omega)];omega
     rw[ew];refine hI ((i+j)/2+1,j) _ _ ⟨rfl,rfl,by simp only;omega,by simp only;omega,hjb,fun q y D hqi=>?_,L,X,hu5⟩ (by simp only;omega)
     exact w.ntr _ _ _ hxu (jX w sU (i:=q) (j:=(i+j)/2-a) (by simp only at hqi;omega) D hVk)
    |true=>
     refine aj.2 ?_;refine hI (i,(i+j)/2) _ _ ⟨rfl,rfl,hmi,by simp only;omega,by simp only;omega,H,fun q y D hqi=>?_,X,hu5⟩ (by simp only;omega)
     have hle:=jX w sU (i:=(i+j)/2-a) (j:=q) (by simp only at hqi;omega) hVk D;cases hvy:lt v y with
     |true=>rfl
     |false=>rw[w.ntr _ _ _ hvy hle]at hxu;cases hxu
   ·have F:i=j:=by have:¬(i:Int)<(j:Int):=hge;omega
    subst F;obtain⟨U1,U2,rfl,hU1⟩:∃U1 U2,U=U1++U2∧U1.length=i-a:=⟨U.take (i-a),U.drop (i-a),(aI ..).symm,by rw[aH];omega⟩
    simp only[ac]at z N hm;have lo1:∀x∈U1,lt v x=false:=fun x hx=>by
     obtain⟨q,D,e⟩:=bC hx;exact H q x (by rw[bQ D,af D,e]) (by omega)
    have hi1:∀x∈U2,lt v x=true:=fun x hx=>by
     obtain⟨q,D,e⟩:=bC hx;exact L (U1.length+q) x (by rw[aN (by omega),cH,af D,e]) (by omega)
    have hst:=FV w sU lo1 hi1;have f0:A++((U1++U2)++([v]++B))=A++(U1++(U2++(v::([]++B)))):=by simp
    rw[f0]at G;refine LoopP.ghost (fun(g:List (Pr)×List (Pr)) (t:Int) h2=>t=((A.length+U1.length+g.1.length:Nat):Int)∧U2=g.1++g.2∧OwnS eC 2 aq M h2 s (A++(U1++(g.1++(v::(g.2++B)))))∧Upd M h h2) (fun g=>g.1.length) (U2,[])
     ⟨by simp only;omega,by simp,G,hu⟩ ?_
    rintro I2 ⟨G1,E⟩ t2 h2 ⟨e1,e2,o,O⟩ hI2;simp only at e1 e2 o;subst e1 e2;simp only[ac]at z N hm⊢;refine az (fun hgt=>?_) fun hle=>?_
    ·rcases AL G1 with rfl|⟨G1',g,rfl⟩
     ·simp only[aG]at hgt;omega
     simp only[ac,aE]at z N hm hgt⊢;have ew1:IntKind.wrap .i64 (((A.length+U1.length+(G1'.length+1):Nat):Int)-1)=((A.length+U1.length+G1'.length:Nat):Int):=by rw[fx (by omega)];omega
     rw[ew1];have f1:A++(U1++((G1'++ [g])++(v::(E++B))))=(A++(U1++(G1'++ [g])))++v::(E++B):=by simp
     have f2:(A++(U1++(G1'++ [g])))++v::(E++B)=(A++(U1++G1'))++g::(v::(E++B)):=by simp
     have f3:(A++(U1++(G1'++ [g])))++g::(E++B)=(A++(U1++G1'))++g::(g::(E++B)):=by simp
     have f4:(A++(U1++G1'))++v::(g::(E++B))=A++(U1++(G1'++(v::((g::E)++B)))):=by simp
     rw[f1]at o;have o3:=o;rw[f2]at o3;obtain⟨W,f,hy⟩:=fG o3 (i:=A.length+U1.length+G1'.length) (by first|omega|(simp;done)|(simp;omega))
     obtain⟨a2,C,hx⟩:=fG o (i:=A.length+U1.length+(G1'.length+1)) (by first|omega|(simp;done)|(simp;omega))
     rw[f]at C;cases C;refine⟨⟨by omega,by omega⟩,W,f,g.1,hy 0 _ rfl,g.2,hy 1 _ rfl,⟨by omega,by omega⟩,W,f,v.1,hx 0 _ rfl,v.2,hx 1 _ rfl,⟨by omega,by omega⟩,W,f,?_⟩
     refine lZ o g f (by first|omega|(simp;done)|(simp;omega)) fun T o5 k5=>⟨⟨by omega,by omega⟩,W,f,?_⟩
     rw[f3]at o5;refine lZ o5 v f (by first|omega|(simp;done)|(simp;omega)) fun h6 o6 k6=>?_
     rw[f4]at o6;exact hI2 (G1',g::E) _ _ ⟨rfl,by simp,o6,(O.trans k5 fun b N=>.inl N).trans k6 fun b N=>.inl N⟩ (by simp)
    ·have hG:G1= []:=ay.1 (by omega)
     subst hG;simp only[cB]at o hst hk;refine hk h2 (U1++v::E) ?_ hst O;have f1:A++((U1++v::E)++B)=A++(U1++(v::(E++B))):=by simp
     rw[f1];exact o
  have hU2:2≤U.length:=by
   have:(U.length:Int)≠1:=by simpa using hmore
   omega
  have hV2:2≤V.length:=by
   have:(V.length:Int)≠1:=by simpa using hmore2
   omega
  refine⟨by decide,?_⟩;simp only[Bd];rw[vX (i:=a) (j:=b) (by omega)];obtain⟨d,hmid⟩:∃d,(a+b)/2=d:=⟨_,rfl⟩;rw[hmid];have em:IntKind.wrap .i64 ((d:Int)+(m:Int))=((d+m:Nat):Int):=by rw[fx (by omega)];omega
  rw[em];have ep:IntKind.wrap .i64 (((d+m:Nat):Int)-1)=((d+m-1:Nat):Int):=by rw[fx (by omega)];omega
  rw[ep];refine Join.intro (fun t h'=>h'=h∧∃s0 r0:Nat,t=((s0:Int),(r0:Int))∧a≤s0∧s0≤r0∧r0≤m∧r0≤d∧d+m≤b+s0∧(r0=d∨r0=m)∧(s0=a∨s0+b=d+m)) (fun Rj hRj=>?_) ?_
  ·refine az (fun hgt=>?_) fun hle=>?_
   ·have es:IntKind.wrap .i64 (((d+m:Nat):Int)-(b:Int))=((d+m-b:Nat):Int):=by rw[fx (by omega)];omega
    rw[es];exact hRj _ _ ⟨rfl,_,_,rfl,by omega,by omega,by omega,by omega,by omega,by omega,by omega⟩
   ·exact hRj _ _ ⟨rfl,_,_,rfl,by omega,by omega,by omega,by omega,by omega,by omega,by omega⟩
  rintro t h' ⟨rfl,s0,r0,rfl,hs0,hsr,hrm,hrd,hsb,hr0,hs00⟩;refine LoopP.ghost (fun(g:Nat×Nat) (t:Int×Int) h2=>t.1=(g.1:Int)∧t.2=(g.2:Int)∧s0≤g.1∧g.1≤g.2∧g.2≤r0∧(∀c x y,s0≤c→c<g.1→U[c-a]? =some x→V[d-1-c]? =some y→lt y x=false)∧(∀c x y,g.2≤c→c<r0→U[c-a]? =some x→V[d-1-c]? =some y→lt y x=true)∧OwnS eC 2 aq M h2 s (A++(U++(V++B)))∧Upd M h' h2) (fun g=>g.2-g.1) (s0,r0)
   ⟨rfl,rfl,al _,hsr,al _,fun c x y h1 h2=>(by simp only at h2;omega),fun c x y h1 h2=>(by simp only at h1;omega),ho,Upd.refl _ _⟩ ?_
  rintro I ⟨i,j⟩ ⟨ti,tj⟩ h2 ⟨e1,e2,hsi,F,hjr,H,L,o,O⟩ hI;simp only at e1 e2 hsi F hjr H L;subst e1 e2;refine az (fun S=>?_) fun hge=>?_
  ·have S:i<j:=by have:(i:Int)<(j:Int):=S;omega
   refine⟨by decide,?_⟩;rw[vX (i:=i) (j:=j) (by omega)];obtain⟨c,hcc⟩:∃c,(i+j)/2=c:=⟨_,rfl⟩;rw[hcc];have hci:i≤c:=by omega
   have hcj:c<j:=by omega
   have eq:IntKind.wrap .i64 (((d+m-1:Nat):Int)-(c:Int))=((d+m-1-c:Nat):Int):=by rw[fx (by omega)];omega
   rw[eq];have Y:c-a<U.length:=by omega
   have hk2:d-1-c<V.length:=by omega
   obtain⟨W,f,hx⟩:=tg o (i:=c) (x:=U[c-a]) (Ho (k:=c-a) (by omega) (af Y));obtain⟨a2,C,hy⟩:=tg o (i:=d+m-1-c) (x:=V[d-1-c]) (Nr (k:=d-1-c) (by omega) (af hk2));rw[f]at C;cases C;have hUc:U[c-a]? =some U[c-a]:=af Y;have hVc:V[d-1-c]? =some V[d-1-c]:=af hk2;generalize U[c-a]=x at hx hUc
   generalize V[d-1-c]=y at hy hVc;refine⟨⟨by omega,by omega⟩,W,f,y.1,hy 0 _ rfl,y.2,hy 1 _ rfl,⟨by omega,by omega⟩,W,f,x.1,hx 0 _ rfl,x.2,hx 1 _ rfl,?_⟩
   refine hc.call y x (hc.step O hi) fun T e k5 he=>?_
   rw[he];have X:=o.upd k5 fun _ _ h=>h
   have hu5:=O.tr k5.wide;cases hyx:lt y x with
   |false=>
    refine au.2 ?_;have ew:IntKind.wrap .i64 ((c:Int)+1)=((c+1:Nat):Int):=by rw[fx (by omega)];omega
    rw[ew];refine hI (c+1,j) _ _ ⟨rfl,rfl,by simp only;omega,by simp only;omega,hjr,fun c' x' y' h1 h2 hx' hy'=>?_,L,X,hu5⟩ (by simp only;omega)
    simp only at h2;have q1:=jX w sU (i:=c'-a) (j:=c-a) (by omega) hx' hUc;have q2:=jX w sV (i:=d-1-c) (j:=d-1-c') (by omega) hVc hy';exact w.ntr _ _ _ (w.ntr _ _ _ q2 hyx) q1
   |true=>
    refine aj.2 ?_;refine hI (i,c) _ _ ⟨rfl,rfl,hsi,hci,by simp only;omega,H,fun c' x' y' h1 h2 hx' hy'=>?_,X,hu5⟩ (by simp only;omega)
    simp only at h1;have q1:=jX w sU (i:=c-a) (j:=c'-a) (by omega) hUc hx';have q2:=jX w sV (i:=d-1-c') (j:=d-1-c) (by omega) hy' hVc;cases hyx':lt y' x' with
    |true=>rfl
    |false=>rw[w.ntr _ _ _ (w.ntr _ _ _ q2 hyx') q1]at hyx;cases hyx
  have F:i=j:=by have:¬(i:Int)<(j:Int):=hge;omega
  subst F;have en:IntKind.wrap .i64 (((d+m:Nat):Int)-(i:Int))=((d+m-i:Nat):Int):=by rw[fx (by omega)];omega
  simp only;rw[en];obtain⟨U1,U2,eU,hU1⟩:∃U1 U2,U=U1++U2∧U1.length=i-a:=⟨U.take (i-a),U.drop (i-a),(aI ..).symm,by rw[aH];omega⟩
  obtain⟨V1,V2,eV,hV1⟩:∃V1 V2,V=V1++V2∧V1.length=d-i:=⟨V.take (d-i),V.drop (d-i),(aI ..).symm,by rw[aH];omega⟩
  have c1:∀v∈V1,∀u∈U2,lt v u=true:=fun v hv u hu=>by
   obtain⟨q,D,e⟩:=bC hv;obtain⟨p,hp,e'⟩:=bC hu;have hlU:U.length=U1.length+U2.length:=by rw[eU,ac]
   have n1:0<U2.length:=by omega
   have n2:d-1-i<V1.length:=by omega
   have gx:U[i-a]? =some (U2[0]'n1):=by rw[eU,aN (by omega),←hU1,dP,af (by omega)]
   have gy:V[d-1-i]? =some (V1[d-1-i]'n2):=by rw[eV,bQ (by omega),af (by omega)]
   have hQ:=L i _ _ (al _) (by omega) gx gy;have q1:=jX w sU (i:=i-a) (j:=i-a+p) (by omega) gx (by rw[eU,aN (by omega),←hU1,cH,af hp,e']);have q2:=jX w sV (i:=q) (j:=d-1-i) (by omega) (by rw[eV,bQ D,af D,e]) gy;cases hvu:lt v u with
   |true=>rfl
   |false=>rw[w.ntr _ _ _ (w.ntr _ _ _ q2 hvu) q1]at hQ;cases hQ
  have c2:∀u∈U1,∀v∈V2,lt v u=false:=fun u hu v hv=>by
   obtain⟨p,hp,e'⟩:=bC hu;obtain⟨q,D,e⟩:=bC hv;have hlV:V.length=V1.length+V2.length:=by rw[eV,ac]
   have n1:i-1-a<U1.length:=by omega
   have n2:0<V2.length:=by omega
   have gx:U[i-1-a]? =some (U1[i-1-a]'n1):=by rw[eU,bQ (by omega),af (by omega)]
   have gy:V[d-1-(i-1)]? =some (V2[0]'n2):=by rw[eV,aN (by omega),show d-1-(i-1)-V1.length=0 by omega,af (by omega)]
   have hQ:=H (i-1) _ _ (by omega) (by omega) gx gy;have q1:=jX w sU (i:=p) (j:=i-1-a) (by omega) (by rw[eU,bQ hp,af hp,e']) gx;have q2:=jX w sV (i:=d-i) (j:=d-i+q) (by omega) (by rw[eV,aN (by omega),hV1,dP,af (by omega)]) (by rw[eV,aN (by omega),hV1,cH,af D,e])
   have gy2:V[d-i]? =some (V2[0]'n2):=by rw[eV,aN (by omega),hV1,dP,af (by omega)]
   exact w.ntr _ _ _ (w.ntr _ _ _ q2 hQ) q1
  subst eU eV;simp only[ac]at z hU hV hl hm N hU2 hV2;have sA1:=sU.left;have sA2:=sU.right;have sB1:=sV.left;have sB2:=sV.right;refine Join.intro (fun _ h3=>OwnS eC 2 aq M h3 s (A++(U1++(V1++(U2++(V2++B)))))∧Upd M h' h3) (fun Rj hRj=>?_) ?_
  ·have f1:A++((U1++U2)++((V1++V2)++B))=(A++U1)++(U2++(V1++(V2++B))):=by simp
   have f2:(A++U1)++(V1++(U2++(V2++B)))=A++(U1++(V1++(U2++(V2++B)))):=by simp
   refine Join.intro (fun t h3=>h3=h2∧(t=true↔0<U2.length∧0<V1.length)) (fun Rk Z=>?_) ?_
   ·refine az (fun h=>Z _ _ ⟨rfl,?_⟩) fun h=>Z _ _ ⟨rfl,⟨fun h=>(by cases h),fun h=>(by omega)⟩⟩
    rw[decide_eq_true_iff];constructor
    ·intro h;constructor<;>omega
    ·rintro⟨h1,h2⟩;omega
   ·rintro t h3 ⟨rfl,ht⟩
    cases t with
    |true=>
     obtain⟨p1,p2⟩:=ht.1 rfl;rw[f1]at o;refine au.2 (QY o hn p1 p2 (by rw[ac];omega) (by rw[ac];omega) (by rw[ac];omega) fun h4 o4 k4=>hRj _ _ ⟨?_,O.trans k4 fun b N=>.inl N⟩)
     rw[f2]at o4;exact o4
    |false=>
     have hz:U2= []∨V1= []:=by
      rcases cE U2.length with h|h
      ·exact .inl (ay.1 h)
      ·rcases cE V1.length with h3|h3
       ·exact .inr (ay.1 h3)
       ·have:=ht.2 ⟨h,h3⟩;cases this
     refine aj.2 (hRj _ _ ⟨?_,O⟩);rw[f1]at o;rw[←f2];rcases hz with rfl|rfl
     ·exact o
     ·exact o
  rintro _ h3 ⟨o3,k3⟩;refine Join.intro (fun _ h4=>∃R1,OwnS eC 2 aq M h4 s (A++(R1++(U2++(V2++B))))∧St lt (U1++V1) R1∧Upd M h' h4) (fun Rj hRj=>?_) ?_
  ·refine Join.intro (fun t h4=>h4=h3∧(t=true↔0<U1.length∧0<V1.length)) (fun Rk Z=>?_) ?_
   ·refine az (fun h=>Z _ _ ⟨rfl,?_⟩) fun h=>Z _ _ ⟨rfl,⟨fun h=>(by cases h),fun h=>(by omega)⟩⟩
    rw[decide_eq_true_iff];constructor
    ·intro h;constructor<;>omega
    ·rintro⟨h1,h2⟩;omega
   ·rintro t h4 ⟨rfl,ht⟩
    cases t with
    |true=>
     obtain⟨p1,p2⟩:=ht.1 rfl;refine au.2 (ih (by omega) o3 (hc.step k3 hi) p1 p2 sA1 sB1 ha (by omega) (by omega) fun T R1 o5 s5 k5=>hRj _ _ ⟨R1,o5,s5,k3.trans k5 fun b N=>.inl N⟩)
    |false=>
     refine aj.2 (hRj _ _ ⟨U1++V1,by simpa using o3,⟨Eqf.rfl _,?_⟩,k3⟩)
     rcases cE U1.length with h|h
     ·rw[ay.1 h];exact sB1
     ·rcases cE V1.length with T|T
      ·rw[ay.1 T,aL];exact sA1
      ·have:=ht.2 ⟨h,T⟩;cases this
  rintro _ h4 ⟨R1,o4,s1,k4⟩;have hR1:=s1.eqf.len;rw[ac]at hR1;have fin:∀{T:ae} {R2:List (Pr)},OwnS eC 2 aq M T s (A++(R1++(R2++B)))→St lt (U2++V2) R2→Upd M h' T→K () T:=fun{T R2} o5 s2 k5=>by
   refine hk T (R1++R2) ?_ (Lq w sU sV c1 c2 s1 s2) k5;rw[ar];exact o5
  refine Join.intro (fun t T=>T=h4∧(t=true↔0<U2.length∧0<V2.length)) (fun Rk Z=>?_) ?_
  ·refine az (fun h=>Z _ _ ⟨rfl,?_⟩) fun h=>Z _ _ ⟨rfl,⟨fun h=>(by cases h),fun h=>(by omega)⟩⟩
   rw[decide_eq_true_iff];constructor
   ·intro h;constructor<;>omega
   ·rintro⟨h1,h2⟩;omega
  ·rintro t T ⟨rfl,ht⟩
   have f1:A++(R1++(U2++(V2++B)))=(A++R1)++(U2++(V2++B)):=by simp
   cases t with
   |true=>
    obtain⟨p1,p2⟩:=ht.1 rfl;rw[f1]at o4;refine au.2 (ih (by omega) o4 (hc.step k4 hi) p1 p2 sA2 sB2 (by rw[ac];omega) (by rw[ac];omega) (by rw[ac];omega) fun h6 R2 o6 s6 k6=>fin (R2:=R2) ?_ s6 (k4.trans k6 fun b N=>.inl N))
    rw[ar]at o6;exact o6
   |false=>
    refine aj.2 (fin (R2:=U2++V2) (by simpa using o4) ⟨Eqf.rfl _,?_⟩ k4);rcases cE U2.length with h|h
    ·rw[ay.1 h];exact sB2
    ·rcases cE V2.length with h6|h6
     ·rw[ay.1 h6,aL];exact sA2
     ·have:=ht.2 ⟨h,h6⟩;cases this
theorem QN{lt:Pr→Pr→Bool}(w:WO lt){M:Nat→Prop}{Iv:ae→Prop}{e:Value}(hc:Cmp lt eC M Iv e){h:ae}{s:SliceV}{xs:List (Pr)}(ho:OwnS eC 2 aq M h s xs)(hi:Iv h)(hn:xs.length≤100000000){K:Unit→ae→Prop}
  (hk:∀h' R,OwnS eC 2 aq M h' s R→St lt xs R→Upd M h h'→K () h'):HC PG dz [.slice s.a s.len s.cap,e] [] K h:=by
 refine lQ s e ?_;unfold gT;refine rC s (s.len:Int) e ?_;unfold ly;have m:=ho.len;have f:s.len≤1000000000:=by omega
 refine LoopP.ghost (fun(g:List (Pr)×List (Pr)×List (Pr)) (t:Int×Int) h'=>t.1=(g.2.1.length:Int)∧t.2=((g.2.1.length+20:Nat):Int)∧xs=g.1++g.2.2∧Eqf lt g.1 g.2.1∧Full lt 20 g.2.1∧OwnS eC 2 aq M h' s (g.2.1++g.2.2)∧Upd M h h') (fun g=>g.2.2.length) ([],[],xs)
  ⟨rfl,rfl,rfl,Eqf.rfl _,Full.nil,ho,Upd.refl _ _⟩ ?_
 rintro I ⟨X,D,T⟩ ⟨ta,tb⟩ h1 ⟨j,L,P,d,k,F,k1⟩ hI;simp only at j L P d k F;subst j L P;have hXD:=d.len;simp only[ac]at m hn;refine az (fun hle=>?_) fun J=>?_
 ·obtain⟨S,W,rfl,hS⟩:∃S W,T=S++W∧S.length=20:=⟨T.take 20,T.drop 20,(aI ..).symm,by rw[aH];omega⟩
  refine Ge w hc F (hc.step k1 hi) f rfl (b:=D.length+20) (by omega) fun h2 R z v G=>?_
  have A:=v.eqf.len;simp only[ac]at m hn;have O:IntKind.wrap .i64 (((D.length+20:Nat):Int)+20)=(((D++R).length+20:Nat):Int):=by rw[ac,fx (by omega)];omega
  rw[O];refine hI (X++S,D++R,W) _ _ ⟨by simp only[ac];omega,rfl,by simp,d.app v.eqf,k.app (by omega) v.srt,by rw[ar];exact z,k1.trans G fun b p=>.inl p⟩ (by simp only[ac];omega)
 have U:D++T=D++(T++ []):=by simp
 rw[U]at F;refine Ge w hc F (hc.step k1 hi) f rfl (b:=s.len) (by omega) fun h2 R z v G=>?_
 have A:=v.eqf.len;rw[aL]at z;have o:Eqf lt (X++T) (D++R):=d.app v.eqf;have Q:Runs lt 20 (D++R):=k R (.last R (by omega) v.srt);have G:Upd M h h2:=k1.trans G fun b p=>.inl p
 generalize D++R=ys at z o Q;generalize X++T=zs at o hk;have c:s.len=ys.length:=z.len;clear hI d k F U J A;refine LoopP.ghost (fun(g:Nat×List (Pr)) (t:Int) h'=>t=(g.1:Int)∧0<g.1∧g.1≤200000000∧Runs lt g.1 g.2∧Eqf lt zs g.2∧OwnS eC 2 aq M h' s g.2∧Upd M h h') (fun g=>s.len-g.1) (20,ys)
  ⟨rfl,by simp,by simp,Q,o,z,G⟩ ?_
 rintro I2 ⟨a,ys⟩ t h3 ⟨j,hb0,Z,hr,q,V,k3⟩ hI2;simp only at j hb0 Z hr q V;subst j;have c:s.len=ys.length:=V.len;refine az (fun hlt=>?_) fun hge=>?_
 ·have hlt:a<s.len:=by omega
  have e0:IntKind.wrap .i64 (2*(a:Int))=((2*a:Nat):Int):=by rw[fx (by omega)];omega
  rw[e0];refine LoopP.ghost (fun(g:List (Pr)×List (Pr)×List (Pr)) (t:Int×Int) h'=>t.1=(g.2.1.length:Int)∧t.2=((g.2.1.length+2*a:Nat):Int)∧ys=g.1++g.2.2∧Eqf lt g.1 g.2.1∧Full lt (2*a) g.2.1∧Runs lt a g.2.2∧OwnS eC 2 aq M h' s (g.2.1++g.2.2)∧Upd M h h') (fun g=>g.2.2.length) ([],[],ys)
   ⟨rfl,by simp,rfl,Eqf.rfl _,Full.nil,hr,V,k3⟩ ?_
  rintro I3 ⟨Y,D,T⟩ ⟨ta,tb⟩ h4 ⟨j,L,P,d,k,i,H,B⟩ hI3;simp only at j L P d k i H;subst j L P;have hYD:=d.len;simp only[ac]at c;have ea:IntKind.wrap .i64 ((D.length:Int)+(a:Int))=((D.length+a:Nat):Int):=by rw[fx (by omega)];omega
  simp only;rw[ea];refine az (fun hle=>?_) fun J=>?_
  ·obtain⟨B1,T1,rfl,hB1,x,u⟩:=i.split (by omega)
   simp only[ac]at c;obtain⟨B2,T2,rfl,hB2,sB2,hr2⟩:=u.split (by omega);simp only[ac]at c;refine CT w hc f (B1.length+B2.length) (al _) H (hc.step B hi) (by omega) (by omega) x sB2 rfl (by omega) (by omega) fun E R y n C=>?_
   have A:=n.eqf.len;rw[ac]at A;have O:IntKind.wrap .i64 (((D.length+2*a:Nat):Int)+((2*a:Nat):Int))=(((D++R).length+2*a:Nat):Int):=by rw[ac,fx (by omega)];omega
   rw[O];refine hI3 (Y++(B1++B2),D++R,T2) _ _ ⟨by simp only[ac];omega,rfl,by simp,d.app n.eqf,k.app (by omega) n.srt,hr2,by rw[ar];exact y,B.trans C fun b p=>.inl p⟩ (by simp only[ac];omega)
  ·refine Join.intro (fun _ E=>∃R,Eqf lt T R∧Runs lt (2*a) R∧OwnS eC 2 aq M E s (D++R)∧Upd M h E) (fun Rj N=>?_) ?_
   ·refine az (fun hmn=>?_) fun hmn=>?_
    ·obtain⟨B1,T1,rfl,hB1,x,u⟩:=i.split (by omega)
     simp only[ac]at c;have U:D++(B1++T1)=D++(B1++(T1++ [])):=by simp
     rw[U]at H;refine CT w hc f (B1.length+T1.length) (al _) H (hc.step B hi) (by omega) (by omega) x (u.short (by omega)) rfl (by omega) (by omega) fun E R y n C=>?_
     have A:=n.eqf.len;rw[ac]at A;rw[aL]at y;exact N _ _ ⟨R,n.eqf,.last R (by omega) n.srt,y,B.trans C fun b p=>.inl p⟩
    ·exact N _ _ ⟨T,Eqf.rfl _,.last T (by omega) (i.short (by omega)),H,B⟩
   ·rintro _ E ⟨R,q5,r5,y,C⟩
    have O:IntKind.wrap .i64 ((a:Int)*2)=((2*a:Nat):Int):=by rw[fx (by omega)];omega
    rw[O];exact hI2 (2*a,D++R) _ _ ⟨rfl,by simp only;omega,by simp only;omega,k R r5,q.tr (d.app q5),y,C⟩ (by simp only;omega)
 ·exact hk h3 ys V ⟨q,hr.short (by omega)⟩ k3
end Go.Proofs
