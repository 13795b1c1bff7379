/- A part of the proof that the named laws of this program answer true, whatever the input. -/
import Derived.Test.YtncppacbfagpgaaGreatDoorPart4
import Derived.Test.YtncppacbfagpgaaGreatDoorPart5
open List renaming length_append→ac,length_nil→aG,length_cons→ao,length_eq_zero_iff→ay,append_nil→aL,nil_append→cB,take_append_drop→aI,length_take→aH,length_drop→aV,append_assoc→ar,mem_append→bF,mem_singleton→aD,mem_cons→aA,length_singleton→aE,getElem?_eq_some_iff→bM,getElem?_eq_getElem→af,getElem_of_mem→bC,getElem?_append_left→bQ,getElem?_append_right→aN,mem_of_getLast?→fY,mem_filter→d8,mem_cons_of_mem→aB,mem_cons_self→aw,pairwise_cons→aJ,mem_range→gQ,flatMap_cons→aO,flatMap_append→bO,length_map→dH
open List.Pairwise renaming nil→gF
open Nat renaming eq_zero_or_pos→cE,le_refl→al,add_sub_cancel_left→cH,sub_self→dP,zero_le→aS
namespace Go.Proofs
open Go Go.Lift
variable {z0:Hs}
theorem wY{M:Nat→Prop}{h:ae}{s:SliceV}{A U C V B:List (Pr)}(P:OwnS (sG z0) 3 aY M h s (A++(U++(C++(V++B)))))(hn:s.len≤1000000000)(f:U.length=V.length){a b:Nat}(e:a=A.length)(q:b=A.length+U.length+C.length){n:Nat}(z:n=U.length){o:Value}{K:Unit→ae→Prop}
  (N:∀h',OwnS (sG z0) 3 aY M h' s (A++(V++(C++(U++B))))→Upd M h h'→K () h'):HC PG dy [.slice s.a s.len s.cap,.int .i64 a,.int .i64 b,.int .i64 n,o] [] K h:=by
 subst e q z;refine oz s A.length (A.length+U.length+C.length:Nat) U.length o ?_;unfold jw bI cl AW lP;have d:=P.len;simp only[ac]at d;refine LoopP.ghost (fun(g:(List (Pr)×List (Pr))×List (Pr)×List (Pr)) (t:Int) h'=>t=(g.1.1.length:Int)∧U=g.1.1++g.1.2∧V=g.2.1++g.2.2∧g.1.1.length=g.2.1.length∧OwnS (sG z0) 3 aY M h' s (A++(g.2.1++(g.1.2++(C++(g.1.1++(g.2.2++B))))))∧Upd M h h') (fun g=>g.1.2.length) (([],U),[],V)
  ⟨rfl,rfl,rfl,rfl,P,Upd.refl _ _⟩ ?_
 rintro I ⟨⟨U1,U2⟩,V1,V2⟩ t h' ⟨L,O,Q,F,c,E⟩ X;simp only at L O Q F c;subst L O Q;simp only[ac]at f d;refine az (fun w=>?_) fun x=>?_
 ·simp only[ac]at w
  match U2,V2 with
  | [],_=>simp only[aG]at w;omega
  |_::_,[]=>simp only[aG,ao]at f;omega
  |u::U2,v::V2=>
   simp only[ao]at f d;simp only[ac,ao];have y:IntKind.wrap .i64 (((A.length+(U1.length+(U2.length+1))+C.length:Nat):Int)+(U1.length:Int))=((A.length+(U1.length+(U2.length+1))+C.length+U1.length:Nat):Int):=by rw[fx (by omega)];omega
   have D:IntKind.wrap .i64 ((A.length:Int)+(U1.length:Int))=((A.length+U1.length:Nat):Int):=by rw[fx (by omega)];omega
   rw[y,D];have R:A++(V1++((u::U2)++(C++(U1++((v::V2)++B)))))=(A++V1)++u::(U2++(C++(U1++(v::V2++B)))):=by simp
   have T:(A++V1)++u::(U2++(C++(U1++(v::V2++B))))=((A++V1)++u::(U2++(C++U1)))++v::(V2++B):=by simp
   have Z:(A++V1)++v::(U2++(C++(U1++(v::V2++B))))=((A++V1)++v::(U2++(C++U1)))++v::(V2++B):=by simp
   have S:((A++V1)++v::(U2++(C++U1)))++u::(V2++B)=A++((V1++ [v])++(U2++(C++((U1++ [u])++(V2++B))))):=by simp
   rw[R]at c;obtain⟨a,e,k⟩:=fG c (i:=A.length+U1.length) (by rw[ac];omega);have j:=c;rw[T]at j;obtain⟨a',p,m⟩:=fG j (i:=A.length+(U1.length+(U2.length+1))+C.length+U1.length) (by simp only[ac,ao];omega);rw[e]at p;cases p;refine⟨⟨by omega,by omega⟩,a,e,v.1,m 0 _ rfl,v.2,m 1 _ rfl,eP z0 v.1,m 2 _ rfl,⟨by omega,by omega⟩,a,e,u.1,k 0 _ rfl,u.2,k 1 _ rfl,eP z0 u.1,k 2 _ rfl,⟨by omega,by omega⟩,a,e,?_⟩
   refine lZ c v e (by rw[ac];omega) fun h2 J W=>⟨⟨by omega,by omega⟩,a,e,?_⟩
   rw[Z]at J;refine lZ J u e (by first|omega|(simp;done)|(simp;omega)) fun h3 G Y=>?_
   rw[S]at G;rw[fy (n:=U1.length+(U2.length+1)) (by omega) (by omega)];exact X ((U1++ [u],U2),V1++ [v],V2) _ _ ⟨by simp,by simp,by simp,by simp[F],G,(E.trans W fun b q=>.inl q).trans Y fun b q=>.inl q⟩ (by simp)
 ·simp only[ac]at x
  have H:U2= []:=ay.1 (by omega);have h2:V2= []:=ay.1 (by rw[H,aG]at f;omega);subst H h2;simp only[aL,cB]at c N;exact N h' c E
theorem QZ{M:Nat→Prop}{h:ae}{s:SliceV}{A U V B:List (Pr)}(Q:OwnS (sG z0) 3 aY M h s (A++(U++(V++B))))(O:s.len≤1000000000)(Y:0<U.length)(X:0<V.length){a m b:Nat}(S:a=A.length)(hm:m=A.length+U.length)(p:b=A.length+U.length+V.length){u:Value}{K:Unit→ae→Prop}
  (W:∀h',OwnS (sG z0) 3 aY M h' s (A++(V++(U++B)))→Upd M h h'→K () h'):HC PG gK [.slice s.a s.len s.cap,.int .i64 a,.int .i64 m,.int .i64 b,u] [] K h:=by
 subst S hm p;refine pT s A.length (A.length+U.length:Nat) (A.length+U.length+V.length:Nat) u ?_;unfold j9;have C:=Q.len;simp only[ac]at C;have D:IntKind.wrap .i64 (((A.length+U.length:Nat):Int)-(A.length:Int))=(U.length:Int):=by rw[fx (by omega)];omega
 have E:IntKind.wrap .i64 (((A.length+U.length+V.length:Nat):Int)-((A.length+U.length:Nat):Int))=(V.length:Int):=by rw[fx (by omega)];omega
 rw[D,E];refine LoopP.ghost (fun(g:(List (Pr)×List (Pr))×List (Pr)×List (Pr)) (t:Int×Int) h'=>t.1=(g.1.2.length:Int)∧t.2=(g.2.1.length:Int)∧0<g.1.2.length∧0<g.2.1.length∧A.length+U.length=g.1.1.length+g.1.2.length∧g.1.1++(g.2.1++(g.1.2++g.2.2))=A++(V++(U++B))∧OwnS (sG z0) 3 aY M h' s (g.1.1++(g.1.2++(g.2.1++g.2.2)))∧Upd M h h') (fun g=>g.1.2.length+g.2.1.length) ((A,U),V,B)
  ⟨rfl,rfl,Y,X,rfl,rfl,Q,Upd.refl _ _⟩ ?_
 rintro I ⟨⟨A',U'⟩,V',f⟩ ⟨ti,tj⟩ h' ⟨D,E,J,F,k,e,c,H⟩ P;simp only at D E J F k e c;subst D E;have d:=c.len;simp only[ac]at d;have G:((A.length+U.length:Nat):Int)=((A'.length+U'.length:Nat):Int):=by omega
 rw[G];have R:IntKind.wrap .i64 (((A'.length+U'.length:Nat):Int)-(U'.length:Int))=(A'.length:Int):=by rw[fx (by omega)];omega
 simp only;rw[R];refine CondP.intro (fun j=>?_) fun y=>?_
 ·have j:(U'.length:Int)≠(V'.length:Int):=by simpa using j
  refine az (fun z=>?_) fun Z=>?_
  ·
   have z:V'.length<U'.length:=by omega
   obtain⟨U1,U2,rfl,i⟩:∃U1 U2,U'=U1++U2∧U1.length=V'.length:=⟨U'.take V'.length,U'.drop V'.length,(aI ..).symm,by rw[aH];omega⟩
   simp only[ac]at z d k j R;have v:A'++((U1++U2)++(V'++f))=A'++(U1++(U2++(V'++f))):=by simp
   have T:A'++(V'++(U2++(U1++f)))=(A'++V')++(U2++(U1++f)):=by simp
   rw[v]at c;refine wY c O i rfl (b:=A'.length+(U1++U2).length) (by simp only[ac];omega) (n:=V'.length) i.symm fun h2 q w=>?_
   rw[T]at q;have o:IntKind.wrap .i64 (((U1++U2).length:Int)-(V'.length:Int))=(U2.length:Int):=by rw[ac,fx (by omega)];omega
   rw[o];refine P ((A'++V',U2),U1,f) _ _ ⟨rfl,by simp only;omega,by simp only;omega,by simp only;omega,by simp only[ac];omega,?_,q,H.trans w fun b p=>.inl p⟩ (by simp only[ac];omega)
   rw[←e];simp
  ·have N:U'.length<V'.length:=by omega
   obtain⟨V1,V2,rfl,i⟩:∃V1 V2,V'=V1++V2∧V2.length=U'.length:=⟨V'.take (V'.length-U'.length),V'.drop (V'.length-U'.length),(aI ..).symm,by rw[aV];omega⟩
   simp only[ac]at N d j;have o:IntKind.wrap .i64 ((IntKind.wrap .i64 (((A'.length+U'.length:Nat):Int)+((V1++V2).length:Int)))-(U'.length:Int))=((A'.length+U'.length+V1.length:Nat):Int):=by
    rw[ac,fx (x:=((A'.length+U'.length:Nat):Int)+((V1.length+V2.length:Nat):Int)) (by omega),fx (by omega)];omega
   rw[o];have v:A'++(U'++((V1++V2)++f))=A'++(U'++(V1++(V2++f))):=by simp
   rw[v]at c;refine wY c O i.symm rfl rfl rfl fun h2 q w=>?_
   have L:IntKind.wrap .i64 (((V1++V2).length:Int)-(U'.length:Int))=(V1.length:Int):=by rw[ac,fx (by omega)];omega
   rw[L];refine P ((A',V2),V1,U'++f) _ _ ⟨by simp only;omega,rfl,by simp only;omega,by simp only;omega,by simp only;omega,?_,q,H.trans w fun b p=>.inl p⟩ (by simp only[ac];omega)
   rw[←e];simp
 ·have y:(U'.length:Int)=(V'.length:Int):=by simpa using y
  have v:A'++(U'++(V'++f))=A'++(U'++([]++(V'++f))):=by simp
  rw[v]at c;refine wY c O (by omega) rfl (b:=A'.length+U'.length) (by simp) rfl fun h2 q w=>?_
  rw[cB,e]at q;exact W h2 q (H.trans w fun b p=>.inl p)
theorem Gf{lt:Pr→Pr→Bool}(w:WO lt){M:Nat→Prop}{Iv:ae→Prop}{v:Value}(hc:Cmp lt (sG z0) M Iv v){h:ae}{s:SliceV}{A S B:List (Pr)}(ho:OwnS (sG z0) 3 aY M h s (A++(S++B)))(hi:Iv h)(hn:s.len≤1000000000){a b:Nat}(c:a=A.length)(J:b=A.length+S.length){K:Unit→ae→Prop}
  (hk:∀h' R,OwnS (sG z0) 3 aY M h' s (A++(R++B))→St lt S R→Upd M h h'→K () h'):HC PG dM [.slice s.a s.len s.cap,.int .i64 a,.int .i64 b,v] [] K h:=by
 subst c J;refine mJ s A.length (A.length+S.length:Nat) v ?_;unfold ij bI cl aK ld dK AW lP wV;have j:=ho.len;simp only[ac]at j;have ea:IntKind.wrap .i64 ((A.length:Int)+1)=((A.length+1:Nat):Int):=by rw[fx (by omega)];omega
 rw[ea];refine LoopP.ghost (fun(g:List (Pr)×List (Pr)×List (Pr)) (t:Int) h'=>t=((A.length+max 1 g.1.length:Nat):Int)∧S=g.1++g.2.2∧(g.1= []→g.2.2= [])∧St lt g.1 g.2.1∧OwnS (sG z0) 3 aY M h' s (A++(g.2.1++(g.2.2++B)))∧Upd M h h') (fun g=>g.2.2.length) (S.take 1,S.take 1,S.drop 1)
  ⟨?_,(aI ..).symm,fun e=>?_,⟨Eqf.rfl _,?_⟩,by rw[←ar (S.take 1),aI];exact ho,Upd.refl _ _⟩ ?_
 ·simp only[aH];omega
 ·have:=congrArg List.length e
  simp only[aH,aG]at this;exact ay.1 (by simp only[aV];omega)
 ·match S with
  | []=>exact Srt.nil
  |x::S=>exact Srt.one x
 rintro I ⟨S1,R1,T⟩ t h' ⟨N,P,n,k,o,hu⟩ hI;simp only at N P n k o;subst N P;simp only[ac]at j;have X:=k.eqf.len;refine az (fun D=>?_) fun hge=>?_
 ·simp only[ac]at D
  have W:S1≠[]:=fun e=>by
   have:=n e;subst e;subst this;simp only[aG]at D;omega
  have hS1l:0<S1.length:=List.length_pos_iff.2 W;match T with
  | []=>simp only[aG]at D;omega
  |x::T=>
   have H:A.length+max 1 S1.length=A.length+S1.length:=by omega
   rw[H];refine LoopP.ghost (fun(g:List (Pr)×List (Pr)) (t:Int) h2=>t=((A.length+g.1.length:Nat):Int)∧R1=g.1++g.2∧(∀y∈g.2,lt x y=true)∧OwnS (sG z0) 3 aY M h2 s (A++(g.1++(x::(g.2++(T++B)))))∧Upd M h h2) (fun g=>g.1.length) (R1,[])
    ⟨by simp only;omega,by simp,fun y d=>(by cases d),by simpa using o,hu⟩ ?_
   rintro I2 ⟨L,G⟩ t2 h2 ⟨N,P,Y,m,C⟩ hI2;simp only at N P Y m;subst N P;simp only[ac]at X;simp only[ao]at j;refine Join.intro (fun t h3=>Upd M h h3∧OwnS (sG z0) 3 aY M h3 s (A++(L++(x::(G++(T++B)))))∧(t=true→∃L' y,L=L'++ [y]∧lt x y=true)∧(t=false→∀y∈L,lt x y=false)) (fun Rj Q=>?_) ?_
   ·refine az (fun hgt=>?_) fun hle=>?_
    ·rcases AL L with rfl|⟨L',y,rfl⟩
     ·simp only[aG]at hgt;omega
     have u:(L'++ [y]).length=L'.length+1:=by simp
     have U:IntKind.wrap .i64 (((A.length+(L'++ [y]).length:Nat):Int)-1)=((A.length+L'.length:Nat):Int):=by rw[u,fx (by omega)];omega
     rw[U];have F:A++((L'++ [y])++(x::(G++(T++B))))=(A++L')++y::(x::(G++(T++B))):=by simp
     have Z:A++((L'++ [y])++(x::(G++(T++B))))=(A++(L'++ [y]))++x::(G++(T++B)):=by simp
     have o3:=m;have E:=m;rw[F]at o3;rw[Z]at E;obtain⟨a,c,d⟩:=fG o3 (i:=A.length+L'.length) (by first|omega|(simp;done)|(simp;omega))
     obtain⟨a',f,hx⟩:=fG E (i:=A.length+(L'++ [y]).length) (by first|omega|(simp;done)|(simp;omega))
     rw[c]at f;cases f;refine⟨⟨by omega,by omega⟩,a,c,x.1,hx 0 _ rfl,x.2,hx 1 _ rfl,eP z0 x.1,hx 2 _ rfl,⟨by omega,by omega⟩,a,c,y.1,d 0 _ rfl,y.2,d 1 _ rfl,eP z0 y.1,d 2 _ rfl,?_⟩
     refine hc.call x y (hc.step C hi) fun h5 e V he=>?_
     rw[he];have ho5:=m.upd V fun _ _ h=>h
     refine Q _ _ ⟨C.tr V.wide,ho5,fun h=>⟨L',y,rfl,h⟩,fun h z p=>?_⟩
     have hs:=k.srt.left;rcases bF.1 p with p|p
     ·exact w.ntr x y z h (hs.cross z p y (aD.2 rfl))
     ·rw[aD.1 p];exact h
    ·have hL:L= []:=ay.1 (by omega)
     exact Q _ _ ⟨C,m,fun h=>(by cases h),fun _ y d=>(by rw[hL]at d;cases d)⟩
   ·rintro t3 h3 ⟨O,q,ht,hf⟩
    cases t3 with
    |true=>
     obtain⟨L',y,rfl,hxy⟩:=ht rfl;have u:(L'++ [y]).length=L'.length+1:=by simp
     refine au.2 ?_;have U:IntKind.wrap .i64 (((A.length+(L'++ [y]).length:Nat):Int)-1)=((A.length+L'.length:Nat):Int):=by rw[u,fx (by omega)];omega
     rw[U];have F:A++((L'++ [y])++(x::(G++(T++B))))=(A++L')++y::(x::(G++(T++B))):=by simp
     have Z:(A++L')++y::(x::(G++(T++B)))=(A++(L'++ [y]))++x::(G++(T++B)):=by simp
     have f3:(A++(L'++ [y]))++y::(G++(T++B))=(A++L')++y::(y::(G++(T++B))):=by simp
     have f4:(A++L')++x::(y::(G++(T++B)))=A++(L'++(x::((y::G)++(T++B)))):=by simp
     rw[F]at q;have E:=q;rw[Z]at E;obtain⟨a,c,d⟩:=fG q (i:=A.length+L'.length) (by first|omega|(simp;done)|(simp;omega))
     obtain⟨a',f,hx⟩:=fG E (i:=A.length+(L'++ [y]).length) (by first|omega|(simp;done)|(simp;omega))
     rw[c]at f;cases f;refine⟨⟨by omega,by omega⟩,a,c,y.1,d 0 _ rfl,y.2,d 1 _ rfl,eP z0 y.1,d 2 _ rfl,⟨by omega,by omega⟩,a,c,x.1,hx 0 _ rfl,x.2,hx 1 _ rfl,eP z0 x.1,hx 2 _ rfl,⟨by omega,by omega⟩,a,c,?_⟩
     refine lZ E y c (by first|omega|(simp;done)|(simp;omega)) fun h5 o5 V=>⟨⟨by omega,by omega⟩,a,c,?_⟩
     rw[f3]at o5;refine lZ o5 x c (by first|omega|(simp;done)|(simp;omega)) fun h6 o6 k6=>?_
     rw[f4]at o6;refine hI2 (L',y::G) _ _ ⟨rfl,by simp,fun z p=>?_,o6,(O.trans V fun b J=>.inl J).trans k6 fun b J=>.inl J⟩ (by simp only[u];omega)
     rcases aA.1 p with rfl|p
     ·exact hxy
     ·exact Y z p
    |false=>
     refine aj.2 ?_;have U:IntKind.wrap .i64 (((A.length+S1.length:Nat):Int)+1)=((A.length+max 1 (S1.length+1):Nat):Int):=by rw[fx (by omega)];omega
     rw[U];refine hI (S1++ [x],L++x::G,T) _ _ ⟨by simp,by simp,fun e=>(by simp at e),MQ w k (hf rfl) Y,?_,O⟩ (by simp)
     have F:A++((L++x::G)++(T++B))=A++(L++(x::(G++(T++B)))):=by simp
     rw[F];exact q
 ·simp only[ac]at hge
  have hT:T= []:=by
   rcases cE S1.length with h0|h0
   ·exact n (ay.1 h0)
   ·exact ay.1 (by omega)
  subst hT;rw[cB]at o;rw[aL]at hk;exact hk h' R1 o k hu
theorem CU{lt:Pr→Pr→Bool}(w:WO lt){M:Nat→Prop}{Iv:ae→Prop}{cmp:Value}(hc:Cmp lt (sG z0) M Iv cmp){s:SliceV}(hn:s.len≤1000000000):∀(n:Nat) {h:ae} {A U V B:List (Pr)},U.length+V.length≤n→OwnS (sG z0) 3 aY M h s (A++(U++(V++B)))→Iv h→0<U.length→0<V.length→Srt lt U→Srt lt V→∀{a m b:Nat},a=A.length→m=A.length+U.length→b=A.length+U.length+V.length→∀{K:Unit→ae→Prop},
  (∀h' R,OwnS (sG z0) 3 aY M h' s (A++(R++B))→St lt (U++V) R→Upd M h h'→K () h')→HC PG cR [.slice s.a s.len s.cap,.int .i64 a,.int .i64 m,.int .i64 b,cmp] [] K h:=by
 intro n;induction n with
 |zero=>intro h A U V B hl _ _ hU;omega
 |succ n ih=>
  intro h A U V B hl ho hi hU hV sU sV a m b ha hm N K hk;refine oZ s a m b cmp ?_;unfold jD bI cl aK ld dK AW lP wV;have z:=ho.len;simp only[ac]at z;have e1:IntKind.wrap .i64 ((m:Int)-(a:Int))=(U.length:Int):=by rw[fx (by omega)];omega
  have e2:IntKind.wrap .i64 ((b:Int)-(m:Int))=(V.length:Int):=by rw[fx (by omega)];omega
  rw[e1,e2];refine CondP.intro (fun J=>?_) fun hmore=>?_
  ·have J:U.length=1:=by have:=eq_of_beq J;omega
   match U,J with
   | [u],_=>
   simp only[aE]at z hm N;refine LoopP.ghost (fun(g:Nat×Nat) (t:Int×Int) h'=>t.1=(g.1:Int)∧t.2=(g.2:Int)∧m≤g.1∧g.1≤g.2∧g.2≤b∧(∀q x,V[q]? =some x→m+q<g.1→lt x u=true)∧(∀q x,V[q]? =some x→g.2≤m+q→lt x u=false)∧OwnS (sG z0) 3 aY M h' s (A++([u]++(V++B)))∧Upd M h h') (fun g=>g.2-g.1) (m,b)
    ⟨rfl,rfl,al _,by simp only;omega,al _,fun q x D h=>(by simp only at h;omega),fun q x D h=>(by have:=(bM.1 D).1;simp only at h;omega),ho,Upd.refl _ _⟩ ?_
   rintro I ⟨i,j⟩ ⟨ti,tj⟩ h' ⟨e1,e2,hmi,F,hjb,H,L,G,hu⟩ hI;simp only at e1 e2 hmi F hjb H L;subst e1 e2;refine az (fun S=>?_) fun hge=>?_
   ·have S:i<j:=by have:(i:Int)<(j:Int):=S;omega
    refine⟨by decide,?_⟩;simp only[Bd];rw[vX (by omega)];have Z:(i+j)/2-m<V.length:=by omega
    have hk0:(i+j)/2=A.length+1+((i+j)/2-m):=by omega
    obtain⟨X,f,hx⟩:=tg G (i:=(i+j)/2) (x:=V[(i+j)/2-m]) (Nr (U:= [u]) (k:=(i+j)/2-m) (by simp only[aE];omega) (af Z));obtain⟨a2,C,T⟩:=fG (P:=A) (x:=u) (Q:=V++B) G ha;rw[f]at C;cases C;have hVk:V[(i+j)/2-m]? =some V[(i+j)/2-m]:=af Z;generalize V[(i+j)/2-m]=x at hx hVk;refine⟨⟨by omega,by omega⟩,X,f,x.1,hx 0 _ rfl,x.2,hx 1 _ rfl,eP z0 x.1,hx 2 _ rfl,⟨by omega,by omega⟩,X,f,u.1,T 0 _ rfl,u.2,T 1 _ rfl,eP z0 u.1,T 2 _ rfl,?_⟩
    refine hc.call x u (hc.step hu hi) fun W e k5 he=>?_
    rw[he];have Y:=G.upd k5 fun _ _ h=>h
    have hu5:=hu.tr k5.wide;cases hxu:lt x u with
    |true=>
     refine au.2 ?_;have ew:IntKind.wrap .i64 ((((i+j)/2:Nat):Int)+1)=(((i+j)/2+1:Nat):Int):=by rw[fx (by omega)];omega
     rw[ew];refine hI ((i+j)/2+1,j) _ _ ⟨rfl,rfl,by simp only;omega,by simp only;omega,hjb,fun q y D hqi=>?_,L,Y,hu5⟩ (by simp only;omega)
     have hle:=jX w sV (i:=q) (j:=(i+j)/2-m) (by simp only at hqi;omega) D hVk;cases hyu:lt y u with
     |true=>rfl
     |false=>rw[w.ntr _ _ _ hle hyu]at hxu;cases hxu
    |false=>
     refine aj.2 ?_;refine hI (i,(i+j)/2) _ _ ⟨rfl,rfl,hmi,by simp only;omega,by simp only;omega,H,fun q y D hqi=>?_,Y,hu5⟩ (by simp only;omega)
     have hle:=jX w sV (i:=(i+j)/2-m) (j:=q) (by simp only at hqi;omega) hVk D;exact w.ntr _ _ _ hle hxu
   ·have F:i=j:=by have:¬(i:Int)<(j:Int):=hge;omega
    subst F;obtain⟨V1,V2,rfl,hV1⟩:∃V1 V2,V=V1++V2∧V1.length=i-m:=⟨V.take (i-m),V.drop (i-m),(aI ..).symm,by rw[aH];omega⟩
    simp only[ac]at z N;have lo1:∀x∈V1,lt x u=true:=fun x hx=>by
     obtain⟨q,D,e⟩:=bC hx;exact H q x (by rw[bQ D,af D,e]) (by omega)
    have hi1:∀x∈V2,lt x u=false:=fun x hx=>by
     obtain⟨q,D,e⟩:=bC hx;exact L (V1.length+q) x (by rw[aN (by omega),cH,af D,e]) (by omega)
    have hst:=CV w sV lo1 hi1;have f0:A++([u]++((V1++V2)++B))=A++([]++(u::(V1++(V2++B)))):=by simp
    rw[f0]at G;have ew:IntKind.wrap .i64 ((i:Int)-1)=((A.length+V1.length:Nat):Int):=by rw[fx (by omega)];omega
    rw[ew];refine LoopP.ghost (fun(g:List (Pr)×List (Pr)) (t:Int) h2=>t=((A.length+g.1.length:Nat):Int)∧V1=g.1++g.2∧OwnS (sG z0) 3 aY M h2 s (A++(g.1++(u::(g.2++(V2++B)))))∧Upd M h h2) (fun g=>g.2.length) ([],V1)
     ⟨by simp[ha],rfl,G,hu⟩ ?_
    rintro I2 ⟨G1,E⟩ t2 h2 ⟨e1,e2,o,O⟩ hI2;simp only at e1 e2 o;subst e1 e2;simp only[ac]at z N ew⊢;refine az (fun S=>?_) fun hge=>?_
    ·match E with
     | []=>simp only[aG]at S;omega
     |g::E=>
      simp only[ao]at z;have ew1:IntKind.wrap .i64 (((A.length+G1.length:Nat):Int)+1)=((A.length+G1.length+1:Nat):Int):=by rw[fx (by omega)];omega
      rw[ew1];have f1:A++(G1++(u::((g::E)++(V2++B))))=(A++G1)++u::(g::(E++(V2++B))):=by simp
      have f2:(A++G1)++u::(g::(E++(V2++B)))=(A++(G1++ [u]))++g::(E++(V2++B)):=by simp
      have f3:(A++G1)++g::(g::(E++(V2++B)))=(A++(G1++ [g]))++g::(E++(V2++B)):=by simp
      have f4:(A++(G1++ [g]))++u::(E++(V2++B))=A++((G1++ [g])++(u::(E++(V2++B)))):=by simp
      rw[f1]at o;have o3:=o;rw[f2]at o3;obtain⟨X,f,T⟩:=fG o3 (i:=A.length+G1.length+1) (by first|omega|(simp;done)|(simp;omega))
      obtain⟨a2,C,hx⟩:=fG o (i:=A.length+G1.length) (by first|omega|(simp;done)|(simp;omega))
      rw[f]at C;cases C;refine⟨⟨by omega,by omega⟩,X,f,g.1,T 0 _ rfl,g.2,T 1 _ rfl,eP z0 g.1,T 2 _ rfl,⟨by omega,by omega⟩,X,f,u.1,hx 0 _ rfl,u.2,hx 1 _ rfl,eP z0 u.1,hx 2 _ rfl,⟨by omega,by omega⟩,X,f,?_⟩
      refine lZ o g f (by first|omega|(simp;done)|(simp;omega)) fun W o5 k5=>⟨⟨by omega,by omega⟩,X,f,?_⟩
      rw[f3]at o5;refine lZ o5 u f (by first|omega|(simp;done)|(simp;omega)) fun h6 o6 k6=>?_
      rw[f4]at o6;exact hI2 (G1++ [g],E) _ _ ⟨by simp;omega,by simp,o6,(O.trans k5 fun b N=>.inl N).trans k6 fun b N=>.inl N⟩ (by simp)
    ·have hG:E= []:=ay.1 (by omega)
     subst hG;simp only[aL,cB]at o hst hk;refine hk h2 (G1++u::V2) ?_ hst O;have f1:A++((G1++u::V2)++B)=A++(G1++(u::(V2++B))):=by simp
     rw[f1];exact o
  refine CondP.intro (fun J=>?_) fun hmore2=>?_
  ·have J:V.length=1:=by have:=eq_of_beq J;omega
   match V,J with
   | [v],_=>
   simp only[aE]at z N;refine LoopP.ghost (fun(g:Nat×Nat) (t:Int×Int) h'=>t.1=(g.1:Int)∧t.2=(g.2:Int)∧a≤g.1∧g.1≤g.2∧g.2≤m∧(∀q x,U[q]? =some x→a+q<g.1→lt v x=false)∧(∀q x,U[q]? =some x→g.2≤a+q→lt v x=true)∧OwnS (sG z0) 3 aY M h' s (A++(U++([v]++B)))∧Upd M h h') (fun g=>g.2-g.1) (a,m)
    ⟨rfl,rfl,al _,by simp only;omega,al _,fun q x D h=>(by simp only at h;omega),fun q x D h=>(by have:=(bM.1 D).1;simp only at h;omega),ho,Upd.refl _ _⟩ ?_
   rintro I ⟨i,j⟩ ⟨ti,tj⟩ h' ⟨e1,e2,hmi,F,hjb,H,L,G,hu⟩ hI;simp only at e1 e2 hmi F hjb H L;subst e1 e2;refine az (fun S=>?_) fun hge=>?_
   ·have S:i<j:=by have:(i:Int)<(j:Int):=S;omega
    refine⟨by decide,?_⟩;simp only[Bd];rw[vX (by omega)];have Z:(i+j)/2-a<U.length:=by omega
    obtain⟨X,f,hx⟩:=tg G (i:=(i+j)/2) (x:=U[(i+j)/2-a]) (Ho (k:=(i+j)/2-a) (by omega) (af Z));have f1:A++(U++([v]++B))=(A++U)++v::B:=by simp
    have o3:=G;rw[f1]at o3;obtain⟨a2,C,T⟩:=fG o3 (i:=m) (by first|omega|(simp;done)|(simp;omega))
    rw[f]at C;cases C;have hVk:U[(i+j)/2-a]? =some U[(i+j)/2-a]:=af Z;generalize U[(i+j)/2-a]=x at hx hVk;refine⟨⟨by omega,by omega⟩,X,f,v.1,T 0 _ rfl,v.2,T 1 _ rfl,eP z0 v.1,T 2 _ rfl,⟨by omega,by omega⟩,X,f,x.1,hx 0 _ rfl,x.2,hx 1 _ rfl,eP z0 x.1,hx 2 _ rfl,?_⟩
    refine hc.call v x (hc.step hu hi) fun W e k5 he=>?_
    rw[he];have Y:=G.upd k5 fun _ _ h=>h
    have hu5:=hu.tr k5.wide;cases hxu:lt v x with
    |false=>
     refine au.2 ?_;have ew:IntKind.wrap .i64 ((((i+j)/2:Nat):Int)+1)=(((i+j)/2+1:Nat):Int):=by rw[fx (by omega)];omega
     rw[ew];refine hI ((i+j)/2+1,j) _ _ ⟨rfl,rfl,by simp only;omega,by simp only;omega,hjb,fun q y D hqi=>?_,L,Y,hu5⟩ (by simp only;omega)
     exact w.ntr _ _ _ hxu (jX w sU (i:=q) (j:=(i+j)/2-a) (by simp only at hqi;omega) D hVk)
    |true=>
     refine aj.2 ?_;refine hI (i,(i+j)/2) _ _ ⟨rfl,rfl,hmi,by simp only;omega,by simp only;omega,H,fun q y D hqi=>?_,Y,hu5⟩ (by simp only;omega)
     have hle:=jX w sU (i:=(i+j)/2-a) (j:=q) (by simp only at hqi;omega) hVk D;cases hvy:lt v y with
     |true=>rfl
     |false=>rw[w.ntr _ _ _ hvy hle]at hxu;cases hxu
   ·have F:i=j:=by have:¬(i:Int)<(j:Int):=hge;omega
    subst F;obtain⟨U1,U2,rfl,hU1⟩:∃U1 U2,U=U1++U2∧U1.length=i-a:=⟨U.take (i-a),U.drop (i-a),(aI ..).symm,by rw[aH];omega⟩
    simp only[ac]at z N hm;have lo1:∀x∈U1,lt v x=false:=fun x hx=>by
     obtain⟨q,D,e⟩:=bC hx;exact H q x (by rw[bQ D,af D,e]) (by omega)
    have hi1:∀x∈U2,lt v x=true:=fun x hx=>by
     obtain⟨q,D,e⟩:=bC hx;exact L (U1.length+q) x (by rw[aN (by omega),cH,af D,e]) (by omega)
    have hst:=FV w sU lo1 hi1;have f0:A++((U1++U2)++([v]++B))=A++(U1++(U2++(v::([]++B)))):=by simp
    rw[f0]at G;refine LoopP.ghost (fun(g:List (Pr)×List (Pr)) (t:Int) h2=>t=((A.length+U1.length+g.1.length:Nat):Int)∧U2=g.1++g.2∧OwnS (sG z0) 3 aY M h2 s (A++(U1++(g.1++(v::(g.2++B)))))∧Upd M h h2) (fun g=>g.1.length) (U2,[])
     ⟨by simp only;omega,by simp,G,hu⟩ ?_
    rintro I2 ⟨G1,E⟩ t2 h2 ⟨e1,e2,o,O⟩ hI2;simp only at e1 e2 o;subst e1 e2;simp only[ac]at z N hm⊢;refine az (fun hgt=>?_) fun hle=>?_
    ·rcases AL G1 with rfl|⟨G1',g,rfl⟩
     ·simp only[aG]at hgt;omega
     simp only[ac,aE]at z N hm hgt⊢;have ew1:IntKind.wrap .i64 (((A.length+U1.length+(G1'.length+1):Nat):Int)-1)=((A.length+U1.length+G1'.length:Nat):Int):=by rw[fx (by omega)];omega
     rw[ew1];have f1:A++(U1++((G1'++ [g])++(v::(E++B))))=(A++(U1++(G1'++ [g])))++v::(E++B):=by simp
     have f2:(A++(U1++(G1'++ [g])))++v::(E++B)=(A++(U1++G1'))++g::(v::(E++B)):=by simp
     have f3:(A++(U1++(G1'++ [g])))++g::(E++B)=(A++(U1++G1'))++g::(g::(E++B)):=by simp
     have f4:(A++(U1++G1'))++v::(g::(E++B))=A++(U1++(G1'++(v::((g::E)++B)))):=by simp
     rw[f1]at o;have o3:=o;rw[f2]at o3;obtain⟨X,f,T⟩:=fG o3 (i:=A.length+U1.length+G1'.length) (by first|omega|(simp;done)|(simp;omega))
     obtain⟨a2,C,hx⟩:=fG o (i:=A.length+U1.length+(G1'.length+1)) (by first|omega|(simp;done)|(simp;omega))
     rw[f]at C;cases C;refine⟨⟨by omega,by omega⟩,X,f,g.1,T 0 _ rfl,g.2,T 1 _ rfl,eP z0 g.1,T 2 _ rfl,⟨by omega,by omega⟩,X,f,v.1,hx 0 _ rfl,v.2,hx 1 _ rfl,eP z0 v.1,hx 2 _ rfl,⟨by omega,by omega⟩,X,f,?_⟩
     refine lZ o g f (by first|omega|(simp;done)|(simp;omega)) fun W o5 k5=>⟨⟨by omega,by omega⟩,X,f,?_⟩
     rw[f3]at o5;refine lZ o5 v f (by first|omega|(simp;done)|(simp;omega)) fun h6 o6 k6=>?_
     rw[f4]at o6;exact hI2 (G1',g::E) _ _ ⟨rfl,by simp,o6,(O.trans k5 fun b N=>.inl N).trans k6 fun b N=>.inl N⟩ (by simp)
    ·have hG:G1= []:=ay.1 (by omega)
     subst hG;simp only[cB]at o hst hk;refine hk h2 (U1++v::E) ?_ hst O;have f1:A++((U1++v::E)++B)=A++(U1++(v::(E++B))):=by simp
     rw[f1];exact o
  have hU2:2≤U.length:=by
   have:(U.length:Int)≠1:=by simpa using hmore
   omega
  have hV2:2≤V.length:=by
   have:(V.length:Int)≠1:=by simpa using hmore2
   omega
  refine⟨by decide,?_⟩;simp only[Bd];rw[vX (i:=a) (j:=b) (by omega)];obtain⟨d,hmid⟩:∃d,(a+b)/2=d:=⟨_,rfl⟩;rw[hmid];have em:IntKind.wrap .i64 ((d:Int)+(m:Int))=((d+m:Nat):Int):=by rw[fx (by omega)];omega
  rw[em];have ep:IntKind.wrap .i64 (((d+m:Nat):Int)-1)=((d+m-1:Nat):Int):=by rw[fx (by omega)];omega
  rw[ep];refine Join.intro (fun t h'=>h'=h∧∃s0 r0:Nat,t=((s0:Int),(r0:Int))∧a≤s0∧s0≤r0∧r0≤m∧r0≤d∧d+m≤b+s0∧(r0=d∨r0=m)∧(s0=a∨s0+b=d+m)) (fun Rj hRj=>?_) ?_
  ·refine az (fun hgt=>?_) fun hle=>?_
   ·have es:IntKind.wrap .i64 (((d+m:Nat):Int)-(b:Int))=((d+m-b:Nat):Int):=by rw[fx (by omega)];omega
    rw[es];exact hRj _ _ ⟨rfl,_,_,rfl,by omega,by omega,by omega,by omega,by omega,by omega,by omega⟩
   ·exact hRj _ _ ⟨rfl,_,_,rfl,by omega,by omega,by omega,by omega,by omega,by omega,by omega⟩
  rintro t h' ⟨rfl,s0,r0,rfl,hs0,hsr,hrm,hrd,hsb,hr0,hs00⟩;refine LoopP.ghost (fun(g:Nat×Nat) (t:Int×Int) h2=>t.1=(g.1:Int)∧t.2=(g.2:Int)∧s0≤g.1∧g.1≤g.2∧g.2≤r0∧(∀c x y,s0≤c→c<g.1→U[c-a]? =some x→V[d-1-c]? =some y→lt y x=false)∧(∀c x y,g.2≤c→c<r0→U[c-a]? =some x→V[d-1-c]? =some y→lt y x=true)∧OwnS (sG z0) 3 aY M h2 s (A++(U++(V++B)))∧Upd M h' h2) (fun g=>g.2-g.1) (s0,r0)
   ⟨rfl,rfl,al _,hsr,al _,fun c x y h1 h2=>(by simp only at h2;omega),fun c x y h1 h2=>(by simp only at h1;omega),ho,Upd.refl _ _⟩ ?_
  rintro I ⟨i,j⟩ ⟨ti,tj⟩ h2 ⟨e1,e2,hsi,F,hjr,H,L,o,O⟩ hI;simp only at e1 e2 hsi F hjr H L;subst e1 e2;refine az (fun S=>?_) fun hge=>?_
  ·have S:i<j:=by have:(i:Int)<(j:Int):=S;omega
   refine⟨by decide,?_⟩;rw[vX (i:=i) (j:=j) (by omega)];obtain⟨c,hcc⟩:∃c,(i+j)/2=c:=⟨_,rfl⟩;rw[hcc];have hci:i≤c:=by omega
   have hcj:c<j:=by omega
   have eq:IntKind.wrap .i64 (((d+m-1:Nat):Int)-(c:Int))=((d+m-1-c:Nat):Int):=by rw[fx (by omega)];omega
   rw[eq];have Z:c-a<U.length:=by omega
   have hk2:d-1-c<V.length:=by omega
   obtain⟨X,f,hx⟩:=tg o (i:=c) (x:=U[c-a]) (Ho (k:=c-a) (by omega) (af Z));obtain⟨a2,C,T⟩:=tg o (i:=d+m-1-c) (x:=V[d-1-c]) (Nr (k:=d-1-c) (by omega) (af hk2));rw[f]at C;cases C;have hUc:U[c-a]? =some U[c-a]:=af Z;have hVc:V[d-1-c]? =some V[d-1-c]:=af hk2;generalize U[c-a]=x at hx hUc
   generalize V[d-1-c]=y at T hVc;refine⟨⟨by omega,by omega⟩,X,f,y.1,T 0 _ rfl,y.2,T 1 _ rfl,eP z0 y.1,T 2 _ rfl,⟨by omega,by omega⟩,X,f,x.1,hx 0 _ rfl,x.2,hx 1 _ rfl,eP z0 x.1,hx 2 _ rfl,?_⟩
   refine hc.call y x (hc.step O hi) fun W e k5 he=>?_
   rw[he];have Y:=o.upd k5 fun _ _ h=>h
   have hu5:=O.tr k5.wide;cases hyx:lt y x with
   |false=>
    refine au.2 ?_;have ew:IntKind.wrap .i64 ((c:Int)+1)=((c+1:Nat):Int):=by rw[fx (by omega)];omega
    rw[ew];refine hI (c+1,j) _ _ ⟨rfl,rfl,by simp only;omega,by simp only;omega,hjr,fun c' x' y' h1 h2 hx' hy'=>?_,L,Y,hu5⟩ (by simp only;omega)
    simp only at h2;have q1:=jX w sU (i:=c'-a) (j:=c-a) (by omega) hx' hUc;have q2:=jX w sV (i:=d-1-c) (j:=d-1-c') (by omega) hVc hy';exact w.ntr _ _ _ (w.ntr _ _ _ q2 hyx) q1
   |true=>
    refine aj.2 ?_;refine hI (i,c) _ _ ⟨rfl,rfl,hsi,hci,by simp only;omega,H,fun c' x' y' h1 h2 hx' hy'=>?_,Y,hu5⟩ (by simp only;omega)
    simp only at h1;have q1:=jX w sU (i:=c-a) (j:=c'-a) (by omega) hUc hx';have q2:=jX w sV (i:=d-1-c') (j:=d-1-c) (by omega) hy' hVc;cases hyx':lt y' x' with
    |true=>rfl
    |false=>rw[w.ntr _ _ _ (w.ntr _ _ _ q2 hyx') q1]at hyx;cases hyx
  have F:i=j:=by have:¬(i:Int)<(j:Int):=hge;omega
  subst F;have en:IntKind.wrap .i64 (((d+m:Nat):Int)-(i:Int))=((d+m-i:Nat):Int):=by rw[fx (by omega)];omega
  simp only;rw[en];obtain⟨U1,U2,eU,hU1⟩:∃U1 U2,U=U1++U2∧U1.length=i-a:=⟨U.take (i-a),U.drop (i-a),(aI ..).symm,by rw[aH];omega⟩
  obtain⟨V1,V2,eV,hV1⟩:∃V1 V2,V=V1++V2∧V1.length=d-i:=⟨V.take (d-i),V.drop (d-i),(aI ..).symm,by rw[aH];omega⟩
  have c1:∀v∈V1,∀u∈U2,lt v u=true:=fun v hv u hu=>by
   obtain⟨q,D,e⟩:=bC hv;obtain⟨p,hp,e'⟩:=bC hu;have hlU:U.length=U1.length+U2.length:=by rw[eU,ac]
   have n1:0<U2.length:=by omega
   have n2:d-1-i<V1.length:=by omega
   have gx:U[i-a]? =some (U2[0]'n1):=by rw[eU,aN (by omega),←hU1,dP,af (by omega)]
   have gy:V[d-1-i]? =some (V1[d-1-i]'n2):=by rw[eV,bQ (by omega),af (by omega)]
   have hQ:=L i _ _ (al _) (by omega) gx gy;have q1:=jX w sU (i:=i-a) (j:=i-a+p) (by omega) gx (by rw[eU,aN (by omega),←hU1,cH,af hp,e']);have q2:=jX w sV (i:=q) (j:=d-1-i) (by omega) (by rw[eV,bQ D,af D,e]) gy;cases hvu:lt v u with
   |true=>rfl
   |false=>rw[w.ntr _ _ _ (w.ntr _ _ _ q2 hvu) q1]at hQ;cases hQ
  have c2:∀u∈U1,∀v∈V2,lt v u=false:=fun u hu v hv=>by
   obtain⟨p,hp,e'⟩:=bC hu;obtain⟨q,D,e⟩:=bC hv;have hlV:V.length=V1.length+V2.length:=by rw[eV,ac]
   have n1:i-1-a<U1.length:=by omega
   have n2:0<V2.length:=by omega
   have gx:U[i-1-a]? =some (U1[i-1-a]'n1):=by rw[eU,bQ (by omega),af (by omega)]
   have gy:V[d-1-(i-1)]? =some (V2[0]'n2):=by rw[eV,aN (by omega),show d-1-(i-1)-V1.length=0 by omega,af (by omega)]
   have hQ:=H (i-1) _ _ (by omega) (by omega) gx gy;have q1:=jX w sU (i:=p) (j:=i-1-a) (by omega) (by rw[eU,bQ hp,af hp,e']) gx;have q2:=jX w sV (i:=d-i) (j:=d-i+q) (by omega) (by rw[eV,aN (by omega),hV1,dP,af (by omega)]) (by rw[eV,aN (by omega),hV1,cH,af D,e])
   have gy2:V[d-i]? =some (V2[0]'n2):=by rw[eV,aN (by omega),hV1,dP,af (by omega)]
   exact w.ntr _ _ _ (w.ntr _ _ _ q2 hQ) q1
  subst eU eV;simp only[ac]at z hU hV hl hm N hU2 hV2;have sA1:=sU.left;have sA2:=sU.right;have sB1:=sV.left;have sB2:=sV.right;refine Join.intro (fun _ h3=>OwnS (sG z0) 3 aY M h3 s (A++(U1++(V1++(U2++(V2++B)))))∧Upd M h' h3) (fun Rj hRj=>?_) ?_
  ·have f1:A++((U1++U2)++((V1++V2)++B))=(A++U1)++(U2++(V1++(V2++B))):=by simp
   have f2:(A++U1)++(V1++(U2++(V2++B)))=A++(U1++(V1++(U2++(V2++B)))):=by simp
   refine Join.intro (fun t h3=>h3=h2∧(t=true↔0<U2.length∧0<V1.length)) (fun Rk hRk=>?_) ?_
   ·refine az (fun h=>hRk _ _ ⟨rfl,?_⟩) fun h=>hRk _ _ ⟨rfl,⟨fun h=>(by cases h),fun h=>(by omega)⟩⟩
    rw[decide_eq_true_iff];constructor
    ·intro h;constructor<;>omega
    ·rintro⟨h1,h2⟩;omega
   ·rintro t h3 ⟨rfl,ht⟩
    cases t with
    |true=>
     obtain⟨p1,p2⟩:=ht.1 rfl;rw[f1]at o;refine au.2 (QZ o hn p1 p2 (by rw[ac];omega) (by rw[ac];omega) (by rw[ac];omega) fun h4 o4 k4=>hRj _ _ ⟨?_,O.trans k4 fun b N=>.inl N⟩)
     rw[f2]at o4;exact o4
    |false=>
     have hz:U2= []∨V1= []:=by
      rcases cE U2.length with h|h
      ·exact .inl (ay.1 h)
      ·rcases cE V1.length with h3|h3
       ·exact .inr (ay.1 h3)
       ·have:=ht.2 ⟨h,h3⟩;cases this
     refine aj.2 (hRj _ _ ⟨?_,O⟩);rw[f1]at o;rw[←f2];rcases hz with rfl|rfl
     ·exact o
     ·exact o
  rintro _ h3 ⟨o3,k3⟩;refine Join.intro (fun _ h4=>∃R1,OwnS (sG z0) 3 aY M h4 s (A++(R1++(U2++(V2++B))))∧St lt (U1++V1) R1∧Upd M h' h4) (fun Rj hRj=>?_) ?_
  ·refine Join.intro (fun t h4=>h4=h3∧(t=true↔0<U1.length∧0<V1.length)) (fun Rk hRk=>?_) ?_
   ·refine az (fun h=>hRk _ _ ⟨rfl,?_⟩) fun h=>hRk _ _ ⟨rfl,⟨fun h=>(by cases h),fun h=>(by omega)⟩⟩
    rw[decide_eq_true_iff];constructor
    ·intro h;constructor<;>omega
    ·rintro⟨h1,h2⟩;omega
   ·rintro t h4 ⟨rfl,ht⟩
    cases t with
    |true=>
     obtain⟨p1,p2⟩:=ht.1 rfl;refine au.2 (ih (by omega) o3 (hc.step k3 hi) p1 p2 sA1 sB1 ha (by omega) (by omega) fun W R1 o5 s5 k5=>hRj _ _ ⟨R1,o5,s5,k3.trans k5 fun b N=>.inl N⟩)
    |false=>
     refine aj.2 (hRj _ _ ⟨U1++V1,by simpa using o3,⟨Eqf.rfl _,?_⟩,k3⟩)
     rcases cE U1.length with h|h
     ·rw[ay.1 h];exact sB1
     ·rcases cE V1.length with W|W
      ·rw[ay.1 W,aL];exact sA1
      ·have:=ht.2 ⟨h,W⟩;cases this
  rintro _ h4 ⟨R1,o4,s1,k4⟩;have hR1:=s1.eqf.len;rw[ac]at hR1;have fin:∀{W:ae} {R2:List (Pr)},OwnS (sG z0) 3 aY M W s (A++(R1++(R2++B)))→St lt (U2++V2) R2→Upd M h' W→K () W:=fun{W R2} o5 s2 k5=>by
   refine hk W (R1++R2) ?_ (Lq w sU sV c1 c2 s1 s2) k5;rw[ar];exact o5
  refine Join.intro (fun t W=>W=h4∧(t=true↔0<U2.length∧0<V2.length)) (fun Rk hRk=>?_) ?_
  ·refine az (fun h=>hRk _ _ ⟨rfl,?_⟩) fun h=>hRk _ _ ⟨rfl,⟨fun h=>(by cases h),fun h=>(by omega)⟩⟩
   rw[decide_eq_true_iff];constructor
   ·intro h;constructor<;>omega
   ·rintro⟨h1,h2⟩;omega
  ·rintro t W ⟨rfl,ht⟩
   have f1:A++(R1++(U2++(V2++B)))=(A++R1)++(U2++(V2++B)):=by simp
   cases t with
   |true=>
    obtain⟨p1,p2⟩:=ht.1 rfl;rw[f1]at o4;refine au.2 (ih (by omega) o4 (hc.step k4 hi) p1 p2 sA2 sB2 (by rw[ac];omega) (by rw[ac];omega) (by rw[ac];omega) fun h6 R2 o6 s6 k6=>fin (R2:=R2) ?_ s6 (k4.trans k6 fun b N=>.inl N))
    rw[ar]at o6;exact o6
   |false=>
    refine aj.2 (fin (R2:=U2++V2) (by simpa using o4) ⟨Eqf.rfl _,?_⟩ k4);rcases cE U2.length with h|h
    ·rw[ay.1 h];exact sB2
    ·rcases cE V2.length with h6|h6
     ·rw[ay.1 h6,aL];exact sA2
     ·have:=ht.2 ⟨h,h6⟩;cases this
theorem QO{lt:Pr→Pr→Bool}(w:WO lt){M:Nat→Prop}{Iv:ae→Prop}{e:Value}(hc:Cmp lt (sG z0) M Iv e){h:ae}{s:SliceV}{xs:List (Pr)}(ho:OwnS (sG z0) 3 aY M h s xs)(hi:Iv h)(hn:xs.length≤100000000){K:Unit→ae→Prop}
  (hk:∀h' R,OwnS (sG z0) 3 aY M h' s R→St lt xs R→Upd M h h'→K () h'):HC PG cS [.slice s.a s.len s.cap,e] [] K h:=by
 refine kr s e ?_;unfold fO;refine pS s (s.len:Int) e ?_;unfold j7;have m:=ho.len;have f:s.len≤1000000000:=by omega
 refine LoopP.ghost (fun(g:List (Pr)×List (Pr)×List (Pr)) (t:Int×Int) h'=>t.1=(g.2.1.length:Int)∧t.2=((g.2.1.length+20:Nat):Int)∧xs=g.1++g.2.2∧Eqf lt g.1 g.2.1∧Full lt 20 g.2.1∧OwnS (sG z0) 3 aY M h' s (g.2.1++g.2.2)∧Upd M h h') (fun g=>g.2.2.length) ([],[],xs)
  ⟨rfl,rfl,rfl,Eqf.rfl _,Full.nil,ho,Upd.refl _ _⟩ ?_
 rintro I ⟨X,D,T⟩ ⟨ta,tb⟩ h1 ⟨j,L,P,d,k,F,k1⟩ hI;simp only at j L P d k F;subst j L P;have hXD:=d.len;simp only[ac]at m hn;refine az (fun hle=>?_) fun J=>?_
 ·obtain⟨S,W,rfl,hS⟩:∃S W,T=S++W∧S.length=20:=⟨T.take 20,T.drop 20,(aI ..).symm,by rw[aH];omega⟩
  refine Gf w hc F (hc.step k1 hi) f rfl (b:=D.length+20) (by omega) fun h2 R z v G=>?_
  have A:=v.eqf.len;simp only[ac]at m hn;have O:IntKind.wrap .i64 (((D.length+20:Nat):Int)+20)=(((D++R).length+20:Nat):Int):=by rw[ac,fx (by omega)];omega
  rw[O];refine hI (X++S,D++R,W) _ _ ⟨by simp only[ac];omega,rfl,by simp,d.app v.eqf,k.app (by omega) v.srt,by rw[ar];exact z,k1.trans G fun b p=>.inl p⟩ (by simp only[ac];omega)
 have U:D++T=D++(T++ []):=by simp
 rw[U]at F;refine Gf w hc F (hc.step k1 hi) f rfl (b:=s.len) (by omega) fun h2 R z v G=>?_
 have A:=v.eqf.len;rw[aL]at z;have o:Eqf lt (X++T) (D++R):=d.app v.eqf;have Q:Runs lt 20 (D++R):=k R (.last R (by omega) v.srt);have G:Upd M h h2:=k1.trans G fun b p=>.inl p
 generalize D++R=ys at z o Q;generalize X++T=zs at o hk;have c:s.len=ys.length:=z.len;clear hI d k F U J A;refine LoopP.ghost (fun(g:Nat×List (Pr)) (t:Int) h'=>t=(g.1:Int)∧0<g.1∧g.1≤200000000∧Runs lt g.1 g.2∧Eqf lt zs g.2∧OwnS (sG z0) 3 aY M h' s g.2∧Upd M h h') (fun g=>s.len-g.1) (20,ys)
  ⟨rfl,by simp,by simp,Q,o,z,G⟩ ?_
 rintro I2 ⟨a,ys⟩ t h3 ⟨j,hb0,Z,hr,q,V,k3⟩ hI2;simp only at j hb0 Z hr q V;subst j;have c:s.len=ys.length:=V.len;refine az (fun hlt=>?_) fun hge=>?_
 ·have hlt:a<s.len:=by omega
  have e0:IntKind.wrap .i64 (2*(a:Int))=((2*a:Nat):Int):=by rw[fx (by omega)];omega
  rw[e0];refine LoopP.ghost (fun(g:List (Pr)×List (Pr)×List (Pr)) (t:Int×Int) h'=>t.1=(g.2.1.length:Int)∧t.2=((g.2.1.length+2*a:Nat):Int)∧ys=g.1++g.2.2∧Eqf lt g.1 g.2.1∧Full lt (2*a) g.2.1∧Runs lt a g.2.2∧OwnS (sG z0) 3 aY M h' s (g.2.1++g.2.2)∧Upd M h h') (fun g=>g.2.2.length) ([],[],ys)
   ⟨rfl,by simp,rfl,Eqf.rfl _,Full.nil,hr,V,k3⟩ ?_
  rintro I3 ⟨Y,D,T⟩ ⟨ta,tb⟩ h4 ⟨j,L,P,d,k,i,H,B⟩ hI3;simp only at j L P d k i H;subst j L P;have hYD:=d.len;simp only[ac]at c;have ea:IntKind.wrap .i64 ((D.length:Int)+(a:Int))=((D.length+a:Nat):Int):=by rw[fx (by omega)];omega
  simp only;rw[ea];refine az (fun hle=>?_) fun J=>?_
  ·obtain⟨B1,T1,rfl,hB1,x,u⟩:=i.split (by omega)
   simp only[ac]at c;obtain⟨B2,T2,rfl,hB2,sB2,hr2⟩:=u.split (by omega);simp only[ac]at c;refine CU w hc f (B1.length+B2.length) (al _) H (hc.step B hi) (by omega) (by omega) x sB2 rfl (by omega) (by omega) fun E R y n C=>?_
   have A:=n.eqf.len;rw[ac]at A;have O:IntKind.wrap .i64 (((D.length+2*a:Nat):Int)+((2*a:Nat):Int))=(((D++R).length+2*a:Nat):Int):=by rw[ac,fx (by omega)];omega
   rw[O];refine hI3 (Y++(B1++B2),D++R,T2) _ _ ⟨by simp only[ac];omega,rfl,by simp,d.app n.eqf,k.app (by omega) n.srt,hr2,by rw[ar];exact y,B.trans C fun b p=>.inl p⟩ (by simp only[ac];omega)
  ·refine Join.intro (fun _ E=>∃R,Eqf lt T R∧Runs lt (2*a) R∧OwnS (sG z0) 3 aY M E s (D++R)∧Upd M h E) (fun Rj N=>?_) ?_
   ·refine az (fun hmn=>?_) fun hmn=>?_
    ·obtain⟨B1,T1,rfl,hB1,x,u⟩:=i.split (by omega)
     simp only[ac]at c;have U:D++(B1++T1)=D++(B1++(T1++ [])):=by simp
     rw[U]at H;refine CU w hc f (B1.length+T1.length) (al _) H (hc.step B hi) (by omega) (by omega) x (u.short (by omega)) rfl (by omega) (by omega) fun E R y n C=>?_
     have A:=n.eqf.len;rw[ac]at A;rw[aL]at y;exact N _ _ ⟨R,n.eqf,.last R (by omega) n.srt,y,B.trans C fun b p=>.inl p⟩
    ·exact N _ _ ⟨T,Eqf.rfl _,.last T (by omega) (i.short (by omega)),H,B⟩
   ·rintro _ E ⟨R,q5,r5,y,C⟩
    have O:IntKind.wrap .i64 ((a:Int)*2)=((2*a:Nat):Int):=by rw[fx (by omega)];omega
    rw[O];exact hI2 (2*a,D++R) _ _ ⟨rfl,by simp only;omega,by simp only;omega,k R r5,q.tr (d.app q5),y,C⟩ (by simp only;omega)
 ·exact hk h3 ys V ⟨q,hr.short (by omega)⟩ k3
end Go.Proofs
namespace Go.Proofs
open Go Go.Lift
def StP(N:Nat):Prop:=∀{lt:Pr→Pr→Bool},WO lt→∀{M:Nat→Prop} {Iv:ae→Prop} {cmp:Value},Cmp lt eC M Iv cmp→∀{h:ae} {s:SliceV} {xs:List Pr},OwnS eC 2 aq M h s xs→Iv h→xs.length≤N→∀{K:Unit→ae→Prop},
 (∀h' R,OwnS eC 2 aq M h' s R→St lt xs R→Upd M h h'→K () h')→HC PG dz [.slice s.a s.len s.cap,cmp] [] K h
def StH(N:Nat):Prop:=∀{z0:Hs} {lt:Pr→Pr→Bool},WO lt→∀{M:Nat→Prop} {Iv:ae→Prop} {cmp:Value},Cmp lt (sG z0) M Iv cmp→∀{h:ae} {s:SliceV} {xs:List Pr},OwnS (sG z0) 3 aY M h s xs→Iv h→xs.length≤N→∀{K:Unit→ae→Prop},
 (∀h' R,OwnS (sG z0) 3 aY M h' s R→St lt xs R→Upd M h h'→K () h')→HC PG cS [.slice s.a s.len s.cap,cmp] [] K h
theorem stP:StP 100000000:=fun w _ _ _ hc _ _ _ a hi b _ c=>QN w hc a hi b c
theorem stH:StH 100000000:=fun w _ _ _ hc _ _ _ a hi b _ c=>QO w hc a hi b c
end Go.Proofs
namespace Go.Proofs
open Go Go.Lift
def YM(a b:Pr):Bool:=decide (kl a.1 b.1)
theorem Z9:WO YM:=by
 refine⟨fun a=>decide_eq_false (cr _),fun a b h=>decide_eq_false fun k=>cr _ (gJ (of_decide_eq_true h) k),fun a b c h k=>decide_eq_false fun d=>?_⟩
 have h:=of_decide_eq_false h;have k:=of_decide_eq_false k;by_cases e:b.1=c.1
 ·rw[←e]at d;exact h d
 ·have f:=ql k e
  exact h (gJ d f)
theorem Y5(x a:Pr):Mj YM x a=decide (a.1=x.1):=by
 unfold Mj YM;by_cases e:a.1=x.1
 ·rw[decide_eq_true e,e,decide_eq_false (cr _)];rfl
 ·rw[decide_eq_false e]
  by_cases h:kl a.1 x.1
  ·rw[decide_eq_true h];rfl
  ·rw[decide_eq_false h,decide_eq_true (ql h e)];rfl
def lO(l:List Pr)(k:ByteArray):Option Pr:=(l.filter fun q=>decide (q.1=k)).getLast?
theorem vg(q:Pr)(l:List Pr)(k:ByteArray):lO (q::l) k=if q.1=k then some ((lO l k).getD q)else lO l k:=by
 unfold lO;rw[List.filter_cons];by_cases h:q.1=k
 ·rw[if_pos (decide_eq_true h),if_pos h,List.getLast?_cons]
 ·rw[if_neg (by simpa using h),if_neg h]
theorem U0{l:List Pr}{k:ByteArray}{p:Pr}(h:lO l k=some p):p.1=k:=by
 unfold lO at h;have:=fY h;exact of_decide_eq_true (d8.1 this).2
theorem E1{l:List Pr}{k:ByteArray}{p:Pr}(h:lO l k=some p):p∈l:=by
 unfold lO at h;exact(d8.1 (fY h)).1
theorem Ry{l:List Pr}{k:ByteArray}(h:∀q∈l,q.1≠k):lO l k=none:=by
 unfold lO;rw[List.filter_eq_nil_iff.2 fun q a=>by simpa using h q a];rfl
theorem Xd{l l':List Pr}(h:Eqf YM l l')(k:ByteArray):lO l' k=lO l k:=by
 unfold lO;have:=h.flt (k,k);have e:∀m:List Pr,m.filter (Mj YM (k,k))=m.filter fun q=>decide (q.1=k):=fun m=>List.filter_congr fun q _=>Y5 (k,k) q
 rw[e,e]at this;rw[this]
def vP(l:List Pr):List Pr:=l.foldl (fun acc p=>iM p acc) []
theorem E6:∀(l:List Pr) {acc:List Pr},cf acc→cf (l.foldl (fun acc p=>iM p acc) acc)∧∀p,p∈l.foldl (fun acc p=>iM p acc) acc↔lO l p.1=some p∨(lO l p.1=none∧p∈acc)
 | [],acc,hr=>⟨hr,fun p=>by simp[lO]⟩
 |q::l,acc,hr=>by
  obtain⟨c,h2⟩:=E6 l (Az q hr);refine⟨c,fun p=>?_⟩
  rw[List.foldl_cons,h2 p,vg,tJ hr];by_cases e:q.1=p.1
  ·rw[if_pos e]
   cases hl:lO l p.1 with
   |none=>
    simp only[Option.getD_none,Option.some.injEq,reduceCtorEq,false_or,false_and,or_false];constructor
    ·rintro⟨_,rfl|⟨_,h⟩⟩
     ·rfl
     ·exact absurd e.symm h
    ·rintro rfl;exact⟨trivial,.inl rfl⟩
   |some r=>simp
  ·rw[if_neg e]
   constructor
   ·rintro(h|⟨h,rfl|⟨a,_⟩⟩)
    ·exact .inl h
    ·exact absurd rfl e
    ·exact .inr ⟨h,a⟩
   ·rintro(h|⟨h,a⟩)
    ·exact .inl h
    ·exact .inr ⟨h,.inr ⟨a,fun b=>e b.symm⟩⟩
theorem Aw(l:List Pr):cf (vP l):=(E6 l gF).1
theorem Ni{l:List Pr}{p:Pr}:p∈vP l↔lO l p.1=some p:=by
 have:=(E6 l (acc:= []) gF).2 p;unfold vP;rw[this];simp
def nm:List Pr→List Pr
 | []=> []
 | [p]=> [p]
 |p::q::l=>if q.1=p.1 then nm (q::l)else p::nm (q::l)
theorem tM(p q:Pr)(l:List Pr):nm (p::q::l)=if q.1=p.1 then nm (q::l)else p::nm (q::l):=rfl
theorem Ce:∀(l:List Pr),∀p∈nm l,p∈l
 | [],p,h=>h
 | [q],p,h=>h
 |q::r::l,p,h=>by
  rw[tM]at h;split at h
  ·exact aB _ (Ce (r::l) p h)
  ·rcases aA.1 h with rfl|h
   ·exact aw ..
   ·exact aB _ (Ce (r::l) p h)
theorem LR:∀{l:List Pr},Srt YM l→cf (nm l)∧∀p,p∈nm l↔lO l p.1=some p
 | [],_=>⟨gF,fun p=>by simp[nm,lO]⟩
 | [q],_=>⟨List.pairwise_singleton ..,fun p=>by
   show p∈[q]↔_
   rw[aD,vg]
   by_cases e:q.1=p.1
   ·rw[if_pos e];simp[lO,eq_comm]
   ·rw[if_neg e];simp only[lO,List.filter_nil,List.getLast?_nil,reduceCtorEq,iff_false]
    rintro rfl;exact e rfl⟩
 |p::q::l,hs=>by
  have c:=aJ.1 hs;obtain⟨g,h2⟩:=LR (l:=q::l) c.2;rw[tM];by_cases e:q.1=p.1
  ·rw[if_pos e]
   refine⟨g,fun r=>?_⟩
   rw[h2 r,vg p];by_cases a:p.1=r.1
   ·rw[if_pos a]
    have:lO (q::l) r.1≠none:=by
     rw[vg,if_pos (e.trans a)];simp
    cases hl:lO (q::l) r.1 with
    |none=>exact absurd hl this
    |some z=>simp
   ·rw[if_neg a]
  ·rw[if_neg e]
   have f:∀r∈q::l,kl p.1 r.1:=fun r d=>by
    have b:kl p.1 q.1:=by
     have:=of_decide_eq_false (c.1 q (aw ..));exact ql this e
    rcases aA.1 d with rfl|d
    ·exact b
    ·have:=of_decide_eq_false ((aJ.1 c.2).1 r d)
     by_cases a:r.1=q.1
     ·rw[a];exact b
     ·exact gJ b (ql this a)
   refine⟨aJ.2 ⟨fun r d=>f r (Ce _ r d),g⟩,fun r=>?_⟩
   rw[aA,h2 r,vg p];by_cases a:p.1=r.1
   ·rw[if_pos a]
    have j:lO (q::l) r.1=none:=Ry fun z i k=>by
     have:=f z i;rw[k,a]at this;exact cr _ this
    rw[j];simp[eq_comm]
   ·rw[if_neg a]
    constructor
    ·rintro(rfl|h)
     ·exact absurd rfl a
     ·exact h
    ·exact .inr
theorem Rx{l ys:List Pr}(h:St YM l ys):nm ys=vP l:=by
 obtain⟨a,h2⟩:=LR h.srt;refine AA a (Aw l) fun p=>?_
 rw[h2 p,Ni,Xd h.eqf]
theorem abh(M:Nat→Prop):Cmp YM eC M (fun _=>True) (.func (.func uj) #[] #[]):=by
 refine⟨fun a b h K _ f=>HV.mk' (GV a b ?_),fun _ h=>h⟩
 unfold y8 ax vN qO;refine aW fun i b1 k1=>aW fun h2 b2 d=>?_
 have c:=d.get0 b1;refine⟨a.1,vc c 0,a.2,vc c 1,b.1,vc b2 0,?_⟩;refine Pe fun e g=>f e _ ((k1.tr d).tr g) ?_
 unfold Kz YM;split
 ·rename_i h;rw[decide_eq_true h];rfl
 ·rename_i h
  rw[decide_eq_false h];split<;>rfl
theorem Iu:∀(l:List Pr),(nm l).length≤l.length
 | []=>al _
 | [_]=>al _
 |p::q::l=>by
  rw[tM];have:=Iu (q::l);split
  ·simp only[ao]at this⊢;omega
  ·simp only[ao]at this⊢;omega
theorem Il{h:ae}{t:TypeId}{p:Pr}{k:ae→Prop}(b:∀h',h'[h.size]? =some (.cells #[.string p.1,.string p.2] t (0,0))→Upd No h h'→k h'):
 At (hnew h [.string (⟨#[]⟩:ByteArray),.string (⟨#[]⟩:ByteArray)] t) (fun a=>u6 a (some (aF h)) 0 [.string p.1,.string p.2]∧At (iP a (aF h) 0 [.string p.1,.string p.2]) k):=uB (p:=p) b
theorem B4{N:Nat}(st:StP N)(hN:N≤100000000){W W':Nat→Prop}{h:ae}{s:SliceV}{l:List Pr}(hs:Sl eC 2 W h s l)(S:∀y,W' y→y<h.size)(hn:l.length≤N){K:SliceV→ae→Prop}
  (hk:∀s' h',Sl eC 2 W' h' s' (vP l)→s'.len≤s'.cap→Upd No h h'→K s' h'):HC PG nb [.slice s.a s.len s.cap] [.c .slice] K h:=by
 refine KQ s ?_;unfold BJ bI cl aK nv ax lM hP lP;refine xF hs (by omega) fun F h1 Y B=>?_
 refine st Z9 (abh _) Y trivial (by omega) fun h2 ys D C X=>?_
 have hyl:=C.eqf.len;have z:Upd No h h2:=B.trans X fun x hx=>.inr hx
 have hlen:=D.len;have o:=Rx C;have z1:=B.size;have hll:=Iu ys;refine LoopP.ghost (fun(g:List Pr×List Pr×List Pr) (t:Int×Int) h'=>t.1=(g.1.length:Int)∧t.2=((g.1.length+g.2.1.length:Nat):Int)∧g.1++nm g.2.2=nm ys∧g.1.length+g.2.1.length+g.2.2.length=ys.length∧OwnS eC 2 aq (fun b=>h.size≤b) h' F (g.1++(g.2.1++g.2.2))∧Upd No h h') (fun g=>g.2.2.length) ([],[],ys)
  ⟨rfl,rfl,rfl,by simp,D,z⟩ ?_
 rintro I ⟨R,G,T⟩ ⟨tn,ti⟩ h3 ⟨e1,H,f,k,j,A⟩ hI;simp only at e1 H f k j;subst e1 H;refine az (fun hlt=>?_) fun hge=>?_
 ·match T with
  | []=>simp only[aG]at k;omega
  |p::T=>
   simp only[ao]at k;have ew:IntKind.wrap .i64 (((R.length+G.length:Nat):Int)+1)=((R.length+G.length+1:Nat):Int):=by rw[fx (by omega)];omega
   simp only;rw[ew];refine Join.intro (fun n' h'=>∃R' G',n'=(R'.length:Int)∧R'.length+G'.length=R.length+G.length+1∧R'++nm T=nm ys∧OwnS eC 2 aq (fun b=>h.size≤b) h' F (R'++(G'++T))∧Upd No h h') (fun Rj u=>?_) ?_
   ·obtain⟨a,E,hv⟩:=tg j (i:=R.length+G.length) (x:=p) (by rw[aN (by omega),cH,aN (al _),dP];rfl)
    refine⟨⟨by omega,by omega⟩,a,E,p.1,hv 0 _ rfl,p.2,hv 1 _ rfl,?_⟩
    refine Il (p:=p) fun h4 O k4=>?_
    have d:=j.upd k4 fun _ _ h=>h
    have n:=A.tr k4;refine Join.intro (fun t h'=>h'=h4∧(t=true↔∃q v,T=q::v∧q.1=p.1)) (fun Rk w=>?_) ?_
    ·refine az (fun hlt2=>?_) fun hge2=>w _ _ ⟨rfl,⟨fun h=>(by cases h),fun⟨q,v,e,_⟩=>(by subst e;simp only[ao]at k;omega)⟩⟩
     rcases T with _|⟨q,T⟩
     ·simp only[aG]at k;omega
     ·obtain⟨a',Q,Z⟩:=tg d (i:=R.length+G.length+1) (x:=q) (by rw[aN (by omega),show R.length+G.length+1-R.length=G.length+1 by omega,aN (by omega),cH];rfl)
      refine⟨⟨by omega,by omega⟩,a',Q,q.1,Z 0 _ rfl,p.1,vc O 0,w _ _ ⟨rfl,?_⟩⟩
      rw[ey,decide_eq_true_iff];exact⟨fun e=>⟨q,T,rfl,e⟩,fun⟨q',v,e,e'⟩=>by cases e;exact e'⟩
    ·rintro t h5 ⟨rfl,ht⟩
     ·cases t with
      |true=>
       obtain⟨q,v,rfl,eq⟩:=ht.1 rfl;refine au.2 (u _ _ ⟨R,G++ [p],rfl,by simp;omega,?_,by simpa using d,n⟩)
       rw[←f,tM,if_pos eq]
      |false=>
       have J:nm (p::T)=p::nm T:=by
        rcases T with _|⟨q,v⟩
        ·rfl
        ·rw[tM,if_neg fun e=>by have:=ht.2 ⟨q,v,rfl,e⟩;cases this]
       refine aj.2 ⟨p.1,vc O 0,p.2,vc O 1,⟨by omega,by omega⟩,a,E,?_⟩
       have ew2:IntKind.wrap .i64 ((R.length:Int)+1)=((R++ [p]).length:Int):=by rw[ac,aE,fx (by omega)];omega
       rw[ew2];rcases G with _|⟨g,G⟩
       ·rw[cB]at d
        refine lZ d p E (by simp) fun h6 o6 U=>u _ _ ⟨R++ [p],[],rfl,by simp,?_,by simpa using o6,n.trans U fun b V=>.inr V⟩
        rw[←f,J];simp
       ·have f1:R++((g::G)++p::T)=R++g::(G++p::T):=by simp
        rw[f1]at d;refine lZ d p E (by simp) fun h6 o6 U=>u _ _ ⟨R++ [p],G++ [p],rfl,by simp;omega,?_,by simpa using o6,n.trans U fun b V=>.inr V⟩
        rw[←f,J];simp
   ·rintro n' h6 ⟨R',G',rfl,P,M,ho6,hu6⟩
    exact hI (R',G',T) _ _ ⟨rfl,by simp only;rw[P],M,by simp only;omega,ho6,hu6⟩ (by simp)
 ·have J:T= []:=ay.1 (by omega)
  subst J;simp only[aG]at k;simp only[nm,aL]at f j;have hcap:=j.cap;refine⟨⟨by simp only;omega,by simp only;omega⟩,?_⟩
  have L:=j.sl (W:=W') fun x hx _ hw=>by have:=S x hw;omega
  have hA:=Sl.sub L (l:=0) (hi:=R.length) (m:=F.cap) (c:=F.cap-0) (aS _) (by simp) (by omega);have H:((R++G).drop 0).take (R.length-0)=vP l:=by rw[List.drop_zero,Nat.sub_zero,List.take_left];exact f.trans o
  rw[H]at hA;exact hk _ _ hA (by simp only;omega) A
theorem Uo{W W':Nat→Prop}{h:ae}{s:SliceV}{l:List Pr}(b:Sl eC 2 W h s l)(a:∀y,W' y→y<h.size)(d:l.length≤10000000){K:SliceV→ae→Prop}
 (c:∀s' h',Sl eC 2 W' h' s' (vP l)→s'.len≤s'.cap→Upd No h h'→K s' h'):HC PG nb [.slice s.a s.len s.cap] [.c .slice] K h:=B4 stP (al _) b a (by omega) c
end Go.Proofs
namespace Go.Proofs
open Go Go.Lift
theorem WU{β:Type}{g:Nat→Option β}{n:Nat}{y:β}:y∈fm g n↔∃c,c<n∧g c=some y:=by
 unfold fm;rw[List.mem_filterMap];exact⟨fun⟨c,a,h2⟩=>⟨c,gQ.1 a,h2⟩,fun⟨c,a,h2⟩=>⟨c,gQ.2 a,h2⟩⟩
def wl(x:Hs):Nat→List Pr→List Pr
 |0,l=>l
 |m+1,l=>ia x (12-m) l++(lN x (12-m) l).flatMap (wl x m)
theorem MC(x:Hs)(m:Nat)(l:List Pr):wl x (m+1) l=ia x (12-m) l++(lN x (12-m) l).flatMap (wl x m):=rfl
theorem Ip{x:Hs}{p:Pr}:∀(m:Nat) {l:List Pr},p∈wl x m l↔p∈l
 |0,_=>Iff.rfl
 |m+1,l=>by
  rw[MC,bF,List.mem_flatMap];constructor
  ·rintro(h|⟨L,d,h⟩)
   ·exact sE h
   ·obtain⟨_,c,rfl⟩:=qE d
    exact(mS.1 ((Ip m).1 h)).1
  ·intro h
   have hm:p∈part x (12-m) (ck x (12-m) p.1) l:=mS.2 ⟨h,rfl⟩;have hc:=yX x (12-m) p.1;rcases d:part x (12-m) (ck x (12-m) p.1) l with _|⟨a,_|⟨b,r⟩⟩
   ·rw[d]at hm;cases hm
   ·left
    rw[d]at hm;rw[aD.1 hm];unfold ia;exact WU.2 ⟨_,hc,by show jM (part x (12-m) (ck x (12-m) p.1) l)=_;rw[d];rfl⟩
   ·right
    refine⟨a::b::r,?_,(Ip m).2 (by rw[←d];exact hm)⟩;unfold lN;exact WU.2 ⟨_,hc,by show fQ (part x (12-m) (ck x (12-m) p.1) l)=_;rw[d];rfl⟩
theorem PC{f:List Pr→List Pr}(h:∀l,(f l).length≤l.length):∀ls:List (List Pr),(ls.flatMap f).length≤ls.flatten.length
 | []=>al _
 |l::ls=>by
  have a:=h l;have h2:=PC h ls;rw[aO,List.flatten_cons,ac,ac];omega
theorem MD(x:Hs):∀(m:Nat) (l:List Pr),(wl x m l).length≤l.length
 |0,_=>al _
 |m+1,l=>by
  rw[MC,ac];have a:=xr x (12-m) l;have h2:=PC (MD x m) (lN x (12-m) l);omega
theorem ZV{x:Hs}{m:Nat}{l:List Pr}(b:cf l):vP (wl x m l)=l:=by
 refine AA (Aw _) b fun p=>?_
 rw[Ni];constructor
 ·intro h;exact(Ip m).1 (E1 h)
 ·intro h
  have d:p∈(wl x m l).filter fun q=>decide (q.1=p.1):=d8.2 ⟨(Ip m).2 h,decide_eq_true rfl⟩
  have a:lO (wl x m l) p.1≠none:=by
   unfold lO;intro e;rw[List.getLast?_eq_none_iff]at e;rw[e]at d;cases d
  cases hl:lO (wl x m l) p.1 with
  |none=>exact absurd hl a
  |some q=>
   have c:=U0 hl;have h2:=(Ip m).1 (E1 hl);have f:(p.1,q.2)∈l:=by rw[←c];exact h2
   have g:=H5 b (k:=p.1) (v:=p.2) (w:=q.2) h f;rw[Prod.ext c g.symm]
def cw(x:Hs):Nat→List Pr→Nat
 |0,_=>2
 |m+1,l=>2+((lN x (12-m) l).map (cw x m)).sum
structure Fr where
 sp:SliceV
 sk:SliceV
 n:Nat
 ps:List Pr
 ks:List (Nat×List Pr)
abbrev VT(v:SliceV×SliceV):List Value:= [sv v.1,sv v.2]
theorem W7(x:SliceV×SliceV):(VT x).length=2∧0<2:=⟨rfl,by omega⟩
def Fr.raw(f:Fr):SliceV×SliceV:=(f.sp,f.sk)
def Fr.rem(x:Hs)(f:Fr):List Pr:=f.ps++f.ks.flatMap fun k=>wl x (f.n-1) k.2
def Fr.cost(x:Hs)(f:Fr):Nat:=1+(f.ks.map fun k=>cw x (f.n-1) k.2).sum
def ES(x:Hs)(l:List Fr):List Pr:=l.reverse.flatMap (Fr.rem x)
def Gl(x:Hs)(l:List Fr):Nat:=(l.map (Fr.cost x)).sum
theorem AB(x:Hs)(l:List Fr)(f:Fr):ES x (l++ [f])=f.rem x++ES x l:=by unfold ES;rw[List.reverse_append];rfl
theorem Cq(x:Hs)(l:List Fr)(f:Fr):Gl x (l++ [f])=Gl x l+f.cost x:=by unfold Gl;rw[List.map_append,List.sum_append];simp
abbrev Pm(k:Nat×List Pr):Option Addr:=some ⟨k.1,0,none⟩
structure Fr.Ok(W G:Nat→Prop)(x:Hs)(h:ae)(f:Fr):Prop where
 p:Sl eC 2 (fun y=>¬G y) h f.sp f.ps
 k:Sl tI 1 (fun y=>¬G y) h f.sk (f.ks.map Pm)
 pc:f.sp.len≤f.sp.cap
 kc:f.sk.len≤f.sk.cap
 t:∀k∈f.ks,TrieAt W x h (f.n-1) k.1 k.2∧k.2.length≤100000
 n0:f.ks≠[]→0<f.n
 n13:f.n≤13
theorem Fr.Ok.upd{W G M:Nat→Prop}{x:Hs}{h h':ae}{f:Fr}(o:f.Ok W G x h)(k:Upd M h h')(d:∀b,M b→W b∨h.size≤b)(a:∀b,M b→¬G b∨h.size≤b):f.Ok W G x h':=
 ⟨o.p.upd k a,o.k.upd k a,o.pc,o.kc,fun q c=>⟨TrieAt.updM k d (o.t q c).1,(o.t q c).2⟩,o.n0,o.n13⟩
theorem Fr.Ok.sub{W G G':Nat→Prop}{x:Hs}{h:ae}{f:Fr}(o:f.Ok W G x h)(d:∀b,G b→G' b):f.Ok W G' x h:=
 ⟨o.p.less fun b c=>.inl fun a=>c (d b a),o.k.less fun b c=>.inl fun a=>c (d b a),o.pc,o.kc,o.t,o.n0,o.n13⟩
abbrev abg(s:SliceV)(d:Int):Array Value:= #[sv s,.int .i64 d]
structure CurW(W G C:Nat→Prop)(x:Hs)(h:ae)(cb:Nat)(fs:List Fr):Prop where
 ex:∃s d,h[cb]? =some (.cells (abg s d) Bo (0,0))∧OwnS VT 2 eX C h s (fs.map Fr.raw)
 ok:∀f∈fs,f.Ok W G x h
 lt:∀b,(C b∨G b)→b<h.size
 dj:∀b,G b→¬C b∧b≠cb
 cc:¬C cb
 cw:(∀b,C b→W b)∧W cb
 lv:fs.Pairwise fun f g=>g.n<f.n
theorem CurW.upd{W G C M:Nat→Prop}{x:Hs}{h h':ae}{g:Nat}{i:List Fr}(c:CurW W G C x h g i)(k:Upd M h h')(p:∀b,M b→W b∨h.size≤b)(q:∀b,C b→¬M b)(m:∀b,G b→¬M b)(e:¬M g):CurW W G C x h' g i:=by
 obtain⟨s,d,n,h2⟩:=c.ex;exact⟨⟨s,d,k.get n e,h2.upd k q⟩,fun f o=>(c.ok f o).upd k p fun b a=>.inl fun j=>m b j a,fun b a=>Nat.lt_of_lt_of_le (c.lt b a) k.size,c.dj,c.cc,c.cw,c.lv⟩
theorem WV:∀{a:List Fr} {n:Nat},a.Pairwise (fun f g=>g.n<f.n)→(∀f∈a,f.n≤n)→a.length≤n+1
 | [],_,_,_=>aS _
 |f::a,n,b,hn=>by
  have b:=aJ.1 b;have d:=hn f (aw ..);rcases a with _|⟨g,a⟩
  ·simp
  ·have c:=b.1 g (aw ..)
   have:=WV (n:=f.n-1) b.2 fun g c=>by have:=b.1 g c;omega
   rw[ao];omega
theorem Tl{α:Type}{f:α→List Value}{c:Nat}{t:TypeId}{M:Nat→Prop}{h:ae}{s:SliceV}{P Q:List α}{x y:α}{j:Nat}{v:Value}(m:OwnS f c t M h s (P++x::Q))(F:j<c)(E:f y=(f x).set j v){a:Addr}(w:s.a=some a){i:Nat}(hi:i=P.length){G:ae→Prop}(D:∀h',OwnS f c t M h' s (P++y::Q)→Upd M h h'→G h'):
  Wr h (adr (adr a (i*c)) j)∧At (hset h (adr (adr a (i*c)) j) v) G:=by
 subst hi;have o:=m.ne;have e:=m.len;have k:=m.cap;rcases m.blk with J|⟨b,d,g,A,hc,C⟩
 ·rw[ac,ao]at e;omega
 rw[w]at g;cases g;have H:(P.flatMap f).length=P.length*c:=lW o P;rw[bO,aO]at hc;have I:=(o x).1;have B:adr (adr ⟨b,0,none⟩ (P.length*c)) j=⟨b,P.length*c+j,none⟩:=by rw[cj,cj,Nat.zero_add]
 rw[B];have u:P.length*c+j<(P.flatMap f++(f x++Q.flatMap f)++d).toArray.size:=by
  simp only[List.size_toArray,ac];omega
 refine⟨iV hc u,un hc fun h' n q=>D h' ⟨by rw[e];simp,o,k,.inr ⟨b,d,w,A,?_,C⟩⟩ (q.mono fun z p=>.inl (by have p:z=b:=p;rw[p];exact A))⟩
 rw[n];congr 3
 rw[bO,aO,E];apply Array.toList_inj.1;rw[Array.toList_setIfInBounds];simp only[ar];rw[List.set_append_right _ _ (by omega),show P.length*c+j-(P.flatMap f).length=j by omega,List.set_append_left _ _ (by omega)]
theorem LV{W:Nat→Prop}{x:Hs}{h:ae}{m:Nat}:∀{ks:List (Option Addr)} {ls:List (List Pr)},KidsAt W x h m ks ls→∃q:List (Nat×List Pr),ks=q.map Pm∧ls=q.map (·.2)∧∀k∈q,TrieAt W x h m k.1 k.2
 | [],[],_=>⟨[],rfl,rfl,fun k b=>by cases b⟩
 |_::_,[],h=>h.elim
 | [],_::_,h=>h.elim
 |k::ks,l::ls,b=>by
  obtain⟨⟨g,e,t⟩,c⟩:=b;obtain⟨q,f,d,i⟩:=LV c;refine⟨(g,l)::q,by rw[e,f];rfl,by rw[d];rfl,fun k' a=>?_⟩
  rcases aA.1 a with rfl|a
  ·exact t
  ·exact i k' a
theorem Lj{W:Nat→Prop}{x:Hs}{h:ae}{m b:Nat}{l:List Pr}(t:TrieAt W x h m b l)(hm:m≤13)(X:l.length≤100000){K:SliceV×SliceV→ae→Prop}
  (w:∀h' f,f.n=m→Fr.rem x f=wl x m l→f.cost x+1=cw x m l→f.Ok W (fun y=>h.size≤y∧y<h'.size) x h'→Upd No h h'→K f.raw h'):HC PG xB [.pointer (some ⟨b,0,none⟩)] [.agg [.slice,.slice]] K h:=by
 refine Mr (some ⟨b,0,none⟩) ?_;unfold FG cT eJ MH aaE;refine aW fun i b1 k1=>?_
 have U:=TrieAt.upd0 k1 (TrieAt.less (W':=Pro W h i) Pro.hm t);obtain⟨d,n,sp,sk,R,ow,A,q,z,v,o,hlp,hq,J,Z,C,I⟩:∃d n sp sk R ow A,∃q:List (Nat×List Pr),i[b]? =some (.cells (fT d n sp sk R ow) bT (0,0))∧Sl eC 2 (Pro W h i) i sp A∧Sl tI 1 (Pro W h i) i sk (q.map Pm)∧A.length≤100000∧q.length≤32∧(A++q.flatMap fun k=>wl x (m-1) k.2)=wl x m l∧2+(q.map fun k=>cw x (m-1) k.2).sum=cw x m l∧(∀k∈q,TrieAt (Pro W h i) x i (m-1) k.1 k.2∧k.2.length≤100000)∧(q≠[]→0<m):=by
  cases m with
  |zero=>
   obtain⟨sp,sk,ow,z,v,o,_⟩:=BuckAt.ex U;exact⟨0,0,sp,sk,true,ow,l,[],z,v,o,X,by simp,by simp[wl],by simp[cw],fun k w=>(by cases w),fun h=>absurd rfl h⟩
  |succ m=>
   obtain⟨s,nd,G⟩:=U;have G:∀c,c<32→SlotIs (Pro W h i) x i m s c (part x (12-m) c l):=G;obtain⟨d,n,sp,sk,ow,z,bits,v,o,_⟩:=nd.ex;have N:=RC (W:=Pro W h i) (x:=x) (h:=i) (m:=m) (lev:=12-m) (s:=s) (l:=l) 32 G;obtain⟨q,T,D,e3⟩:=LV N;have D:lN x (12-m) l=q.map (·.2):=D
   have B:=He G;have hsl:=xr x (12-m) l;have V:=zG (g:=s.k);have Y:q.length=(fm s.k 32).length:=by rw[T,dH]
   refine⟨d,n,sp,sk,false,ow,fm s.p 32,q,z,v,by rw[←T];exact o,by rw[B];omega,by omega,?_,?_,fun k w=>⟨e3 k w,?_⟩,fun _=>Nat.succ_pos _⟩
   ·rw[MC,B,D,List.flatMap_map];rfl
   ·show _=2+_
    rw[D,List.map_map];rfl
   ·have:k.2∈lN x (12-m) l:=by rw[D];exact List.mem_map.2 ⟨k,w,rfl⟩
    obtain⟨_,c,hc⟩:=qE this;rw[hc];exact Nat.le_trans kB X
 refine q9 z v (by omega) fun O h2 F j=>?_
 refine TI (j.get0 z) (o.upd j fun _ h=>h.elim) (by rw[dH];omega) fun L h3 E u=>?_
 have b3:=u.get0 (j.get0 b1);have z1:=k1.size;have z2:=j.size;have z3:=u.size;have zb:=bD b1;refine cU (c:= [.slice none 0 0,.slice none 0 0]) (vs:= [sv O,sv L]) b3 rfl fun S Q p=>?_
 refine⟨O,vc Q 0,L,vc Q 1,?_⟩;have z4:=p.size;have H:Upd No h S:=((k1.tr j).tr u).own p (al _);refine w S ⟨O,L,m,A,q⟩ rfl J (by unfold Fr.cost;simp only;omega) ⟨?_,?_,F.cap,E.cap,fun k w=>⟨TrieAt.less (W:=Pro W h i) (fun y a=>.inl (.inl a)) (TrieAt.updM (M:=(· =h.size)) p (fun y a=>.inl (.inr (by have a:y=h.size:=a;omega))) (TrieAt.upd0 (j.tr u) (C k w).1)),(C k w).2⟩,I,hm⟩ H
 ·exact(((F.upd u fun _ _ h=>h).within).upd p fun y a e=>by have e:y=h.size:=e;have:=a.1;omega).sl fun y a _ P=>P ⟨by have:=a.1;omega,by have:=a.2;omega⟩
 ·exact(E.within.upd p fun y a e=>by have e:y=h.size:=e;have:=a.1;omega).sl fun y a _ P=>P ⟨by have:=a.1;omega,by have:=a.2;omega⟩
end Go.Proofs
