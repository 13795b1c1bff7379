/- A part of the proof that the named laws of this program answer true, whatever the input. -/
import Derived.Test.YtceikogjngfacaaGreatPart2
open Go.IntKind renaming wrap→ac
open List renaming length_append→ae,length_nil→aM,length_cons→ax,length_eq_zero_iff→aw,append_nil→aZ,nil_append→cG,take_append_drop→aL,length_take→aO,length_drop→aP,append_assoc→aF,mem_singleton→aA,length_singleton→aQ,getElem?_eq_some_iff→aY,getElem?_eq_getElem→aj,getElem_of_mem→cd,getElem?_append_left→bf,getElem?_append_right→aD
open Nat renaming eq_zero_or_pos→cW,le_refl→aq,add_sub_cancel_left→cD,sub_self→dJ
namespace Go.Proofs
open Go Go.Lift
variable {z0:Hs}
theorem vZ{M:Nat→Prop}{h:af}{s:SliceV}{A U C V B:List (Pr)}(O:OwnS (rJ z0) 3 aK M h s (A++(U++(C++(V++B)))))(hn:s.len≤1000000000)(e:U.length=V.length){a b:Nat}(f:a=A.length)(x:b=A.length+U.length+C.length){n:Nat}(E:n=U.length){q:Value}{K:Unit→af→Prop}
  (F:∀j,OwnS (rJ z0) 3 aK M j s (A++(V++(C++(U++B))))→Upd M h j→K () j):HC PG c7 [.slice s.a s.len s.cap,.int .i64 a,.int .i64 b,.int .i64 n,q] [] K h:=by
 subst f x E;refine ny s A.length (A.length+U.length+C.length:Nat) U.length q ?_;unfold iu aW cp lH Ag;have d:=O.len;simp only[ae]at d;refine LoopP.ghost (fun(g:(List (Pr)×List (Pr))×List (Pr)×List (Pr)) (t:Int) j=>t=(g.1.1.length:Int)∧U=g.1.1++g.1.2∧V=g.2.1++g.2.2∧g.1.1.length=g.2.1.length∧OwnS (rJ z0) 3 aK M j s (A++(g.2.1++(g.1.2++(C++(g.1.1++(g.2.2++B))))))∧Upd M h j) (fun g=>g.1.2.length) (([],U),[],V)
  ⟨rfl,rfl,rfl,rfl,O,Upd.refl _ _⟩ ?_
 rintro I ⟨⟨U1,U2⟩,V1,V2⟩ t j ⟨L,G,P,H,c,R⟩ Y;simp only at L G P H c;subst L G P;simp only[ae]at e d;refine av (fun w=>?_) fun y=>?_
 ·simp only[ae]at w
  match U2,V2 with
  | [],_=>simp only[aM]at w;omega
  |_::_,[]=>simp only[aM,ax]at e;omega
  |u::U2,v::V2=>
   simp only[ax]at e d;simp only[ae,ax];have z:ac .i64 (((A.length+(U1.length+(U2.length+1))+C.length:Nat):Int)+(U1.length:Int))=((A.length+(U1.length+(U2.length+1))+C.length+U1.length:Nat):Int):=by rw[dW (by omega)];omega
   have D:ac .i64 ((A.length:Int)+(U1.length:Int))=((A.length+U1.length:Nat):Int):=by rw[dW (by omega)];omega
   rw[z,D];have f1:A++(V1++((u::U2)++(C++(U1++((v::V2)++B)))))=(A++V1)++u::(U2++(C++(U1++(v::V2++B)))):=by simp
   have X:(A++V1)++u::(U2++(C++(U1++(v::V2++B))))=((A++V1)++u::(U2++(C++U1)))++v::(V2++B):=by simp
   have W:(A++V1)++v::(U2++(C++(U1++(v::V2++B))))=((A++V1)++v::(U2++(C++U1)))++v::(V2++B):=by simp
   have S:((A++V1)++v::(U2++(C++U1)))++u::(V2++B)=A++((V1++ [v])++(U2++(C++((U1++ [u])++(V2++B))))):=by simp
   rw[f1]at c;obtain⟨a,f,o⟩:=f7 c (i:=A.length+U1.length) (by rw[ae];omega);have k:=c;rw[X]at k;obtain⟨a',p,m⟩:=f7 k (i:=A.length+(U1.length+(U2.length+1))+C.length+U1.length) (by simp only[ae,ax];omega);rw[f]at p;cases p;refine⟨⟨by omega,by omega⟩,a,f,v.1,m 0 _ rfl,v.2,m 1 _ rfl,j5 z0 v.1,m 2 _ rfl,⟨by omega,by omega⟩,a,f,u.1,o 0 _ rfl,u.2,o 1 _ rfl,j5 z0 u.1,o 2 _ rfl,⟨by omega,by omega⟩,a,f,?_⟩
   refine mu c v f (by rw[ae];omega) fun h2 N Z=>⟨⟨by omega,by omega⟩,a,f,?_⟩
   rw[W]at N;refine mu N u f (by first|omega|(simp;done)|(simp;omega)) fun h3 J T=>?_
   rw[S]at J;rw[um (n:=U1.length+(U2.length+1)) (by omega) (by omega)];exact Y ((U1++ [u],U2),V1++ [v],V2) _ _ ⟨by simp,by simp,by simp,by simp[H],J,(R.trans Z fun b x=>.inl x).trans T fun b x=>.inl x⟩ (by simp)
 ·simp only[ae]at y
  have Q:U2= []:=aw.1 (by omega);have h2:V2= []:=aw.1 (by rw[Q,aM]at e;omega);subst Q h2;simp only[aZ,cG]at c F;exact F j c R
theorem Mh{M:Nat→Prop}{h:af}{s:SliceV}{A U V B:List (Pr)}(Q:OwnS (rJ z0) 3 aK M h s (A++(U++(V++B))))(O:s.len≤1000000000)(T:0<U.length)(hV:0<V.length){a m b:Nat}(Z:a=A.length)(hm:m=A.length+U.length)(u:b=A.length+U.length+V.length){v:Value}{K:Unit→af→Prop}
  (W:∀p,OwnS (rJ z0) 3 aK M p s (A++(V++(U++B)))→Upd M h p→K () p):HC PG fJ [.slice s.a s.len s.cap,.int .i64 a,.int .i64 m,.int .i64 b,v] [] K h:=by
 subst Z hm u;refine o8 s A.length (A.length+U.length:Nat) (A.length+U.length+V.length:Nat) v ?_;unfold jl;have w:=Q.len;simp only[ae]at w;have F:ac .i64 (((A.length+U.length:Nat):Int)-(A.length:Int))=(U.length:Int):=by rw[dW (by omega)];omega
 have E:ac .i64 (((A.length+U.length+V.length:Nat):Int)-((A.length+U.length:Nat):Int))=(V.length:Int):=by rw[dW (by omega)];omega
 rw[F,E];refine LoopP.ghost (fun(g:(List (Pr)×List (Pr))×List (Pr)×List (Pr)) (t:Int×Int) p=>t.1=(g.1.2.length:Int)∧t.2=(g.2.1.length:Int)∧0<g.1.2.length∧0<g.2.1.length∧A.length+U.length=g.1.1.length+g.1.2.length∧g.1.1++(g.2.1++(g.1.2++g.2.2))=A++(V++(U++B))∧OwnS (rJ z0) 3 aK M p s (g.1.1++(g.1.2++(g.2.1++g.2.2)))∧Upd M h p) (fun g=>g.1.2.length+g.2.1.length) ((A,U),V,B)
  ⟨rfl,rfl,T,hV,rfl,rfl,Q,Upd.refl _ _⟩ ?_
 rintro I ⟨⟨A',U'⟩,V',f⟩ ⟨ti,tj⟩ p ⟨F,E,J,L,k,e,c,P⟩ S;simp only at F E J L k e c;subst F E;have d:=c.len;simp only[ae]at d;have G:((A.length+U.length:Nat):Int)=((A'.length+U'.length:Nat):Int):=by omega
 rw[G];have R:ac .i64 (((A'.length+U'.length:Nat):Int)-(U'.length:Int))=(A'.length:Int):=by rw[dW (by omega)];omega
 simp only;rw[R];refine CondP.intro (fun j=>?_) fun z=>?_
 ·have j:(U'.length:Int)≠(V'.length:Int):=by simpa using j
  refine av (fun y=>?_) fun X=>?_
  ·
   have y:V'.length<U'.length:=by omega
   obtain⟨U1,U2,rfl,i⟩:∃U1 U2,U'=U1++U2∧U1.length=V'.length:=⟨U'.take V'.length,U'.drop V'.length,(aL ..).symm,by rw[aO];omega⟩
   simp only[ae]at y d k j R;have D:A'++((U1++U2)++(V'++f))=A'++(U1++(U2++(V'++f))):=by simp
   have Y:A'++(V'++(U2++(U1++f)))=(A'++V')++(U2++(U1++f)):=by simp
   rw[D]at c;refine vZ c O i rfl (b:=A'.length+(U1++U2).length) (by simp only[ae];omega) (n:=V'.length) i.symm fun h2 q C=>?_
   rw[Y]at q;have o:ac .i64 (((U1++U2).length:Int)-(V'.length:Int))=(U2.length:Int):=by rw[ae,dW (by omega)];omega
   rw[o];refine S ((A'++V',U2),U1,f) _ _ ⟨rfl,by simp only;omega,by simp only;omega,by simp only;omega,by simp only[ae];omega,?_,q,P.trans C fun b u=>.inl u⟩ (by simp only[ae];omega)
   rw[←e];simp
  ·have N:U'.length<V'.length:=by omega
   obtain⟨V1,V2,rfl,i⟩:∃V1 V2,V'=V1++V2∧V2.length=U'.length:=⟨V'.take (V'.length-U'.length),V'.drop (V'.length-U'.length),(aL ..).symm,by rw[aP];omega⟩
   simp only[ae]at N d j;have o:ac .i64 ((ac .i64 (((A'.length+U'.length:Nat):Int)+((V1++V2).length:Int)))-(U'.length:Int))=((A'.length+U'.length+V1.length:Nat):Int):=by
    rw[ae,dW (x:=((A'.length+U'.length:Nat):Int)+((V1.length+V2.length:Nat):Int)) (by omega),dW (by omega)];omega
   rw[o];have D:A'++(U'++((V1++V2)++f))=A'++(U'++(V1++(V2++f))):=by simp
   rw[D]at c;refine vZ c O i.symm rfl rfl rfl fun h2 q C=>?_
   have H:ac .i64 (((V1++V2).length:Int)-(U'.length:Int))=(V1.length:Int):=by rw[ae,dW (by omega)];omega
   rw[H];refine S ((A',V2),V1,U'++f) _ _ ⟨by simp only;omega,rfl,by simp only;omega,by simp only;omega,by simp only;omega,?_,q,P.trans C fun b u=>.inl u⟩ (by simp only[ae];omega)
   rw[←e];simp
 ·have z:(U'.length:Int)=(V'.length:Int):=by simpa using z
  have D:A'++(U'++(V'++f))=A'++(U'++([]++(V'++f))):=by simp
  rw[D]at c;refine vZ c O (by omega) rfl (b:=A'.length+U'.length) (by simp) rfl fun h2 q C=>?_
  rw[cG,e]at q;exact W h2 q (P.trans C fun b u=>.inl u)
theorem D9{lt:Pr→Pr→Bool}(w:WO lt){M:Nat→Prop}{Iv:af→Prop}{D:Value}(hc:Cmp lt (rJ z0) M Iv D){h:af}{s:SliceV}{A S B:List (Pr)}(ho:OwnS (rJ z0) 3 aK M h s (A++(S++B)))(hi:Iv h)(hn:s.len≤1000000000){a b:Nat}(c:a=A.length)(U:b=A.length+S.length){K:Unit→af→Prop}
  (hk:∀v R,OwnS (rJ z0) 3 aK M v s (A++(R++B))→St lt S R→Upd M h v→K () v):HC PG dy [.slice s.a s.len s.cap,.int .i64 a,.int .i64 b,D] [] K h:=by
 subst c U;refine lR s A.length (A.length+S.length:Nat) D ?_;unfold gv aW cp bW lH pF cr Ag vW;have k:=ho.len;simp only[ae]at k;have ea:ac .i64 ((A.length:Int)+1)=((A.length+1:Nat):Int):=by rw[dW (by omega)];omega
 rw[ea];refine LoopP.ghost (fun(g:List (Pr)×List (Pr)×List (Pr)) (t:Int) v=>t=((A.length+max 1 g.1.length:Nat):Int)∧S=g.1++g.2.2∧(g.1= []→g.2.2= [])∧St lt g.1 g.2.1∧OwnS (rJ z0) 3 aK M v s (A++(g.2.1++(g.2.2++B)))∧Upd M h v) (fun g=>g.2.2.length) (S.take 1,S.take 1,S.drop 1)
  ⟨?_,(aL ..).symm,fun e=>?_,⟨Eqf.rfl _,?_⟩,by rw[←aF (S.take 1),aL];exact ho,Upd.refl _ _⟩ ?_
 ·simp only[aO];omega
 ·have:=congrArg List.length e
  simp only[aO,aM]at this;exact aw.1 (by simp only[aP];omega)
 ·match S with
  | []=>exact Srt.nil
  |x::S=>exact Srt.one x
 rintro I ⟨S1,R1,T⟩ t v ⟨O,J,j,n,p,hu⟩ hI;simp only at O J j n p;subst O J;simp only[ae]at k;have Y:=n.eqf.len;refine av (fun E=>?_) fun Z=>?_
 ·simp only[ae]at E
  have hS1:S1≠[]:=fun e=>by
   have:=j e;subst e;subst this;simp only[aM]at E;omega
  have hS1l:0<S1.length:=List.length_pos_iff.2 hS1;match T with
  | []=>simp only[aM]at E;omega
  |x::T=>
   have H:A.length+max 1 S1.length=A.length+S1.length:=by omega
   rw[H];refine LoopP.ghost (fun(g:List (Pr)×List (Pr)) (t:Int) h2=>t=((A.length+g.1.length:Nat):Int)∧R1=g.1++g.2∧(∀y∈g.2,lt x y=true)∧OwnS (rJ z0) 3 aK M h2 s (A++(g.1++(x::(g.2++(T++B)))))∧Upd M h h2) (fun g=>g.1.length) (R1,[])
    ⟨by simp only;omega,by simp,fun y d=>(by cases d),by simpa using p,hu⟩ ?_
   rintro I2 ⟨L,G⟩ t2 h2 ⟨O,J,hG,m,C⟩ X;simp only at O J hG m;subst O J;simp only[ae]at Y;simp only[ax]at k;refine Join.intro (fun t h3=>Upd M h h3∧OwnS (rJ z0) 3 aK M h3 s (A++(L++(x::(G++(T++B)))))∧(t=true→∃L' y,L=L'++ [y]∧lt x y=true)∧(t=false→∀y∈L,lt x y=false)) (fun Rj Q=>?_) ?_
   ·refine av (fun hgt=>?_) fun hle=>?_
    ·rcases E0 L with rfl|⟨L',y,rfl⟩
     ·simp only[aM]at hgt;omega
     have o:(L'++ [y]).length=L'.length+1:=by simp
     have P:ac .i64 (((A.length+(L'++ [y]).length:Nat):Int)-1)=((A.length+L'.length:Nat):Int):=by rw[o,dW (by omega)];omega
     rw[P];have V:A++((L'++ [y])++(x::(G++(T++B))))=(A++L')++y::(x::(G++(T++B))):=by simp
     have f2:A++((L'++ [y])++(x::(G++(T++B))))=(A++(L'++ [y]))++x::(G++(T++B)):=by simp
     have o3:=m;have F:=m;rw[V]at o3;rw[f2]at F;obtain⟨a,c,d⟩:=f7 o3 (i:=A.length+L'.length) (by first|omega|(simp;done)|(simp;omega))
     obtain⟨a',f,hx⟩:=f7 F (i:=A.length+(L'++ [y]).length) (by first|omega|(simp;done)|(simp;omega))
     rw[c]at f;cases f;refine⟨⟨by omega,by omega⟩,a,c,x.1,hx 0 _ rfl,x.2,hx 1 _ rfl,j5 z0 x.1,hx 2 _ rfl,⟨by omega,by omega⟩,a,c,y.1,d 0 _ rfl,y.2,d 1 _ rfl,j5 z0 y.1,d 2 _ rfl,?_⟩
     refine hc.call x y (hc.step C hi) fun h5 e W he=>?_
     rw[he];have ho5:=m.upd W fun _ _ h=>h
     refine Q _ _ ⟨C.tr W.wide,ho5,fun h=>⟨L',y,rfl,h⟩,fun h z q=>?_⟩
     have hs:=n.srt.left;rcases List.mem_append.1 q with q|q
     ·exact w.ntr x y z h (hs.cross z q y (aA.2 rfl))
     ·rw[aA.1 q];exact h
    ·have hL:L= []:=aw.1 (by omega)
     exact Q _ _ ⟨C,m,fun h=>(by cases h),fun _ y d=>(by rw[hL]at d;cases d)⟩
   ·rintro t3 h3 ⟨N,u,ht,hf⟩
    cases t3 with
    |true=>
     obtain⟨L',y,rfl,hxy⟩:=ht rfl;have o:(L'++ [y]).length=L'.length+1:=by simp
     refine aX.2 ?_;have P:ac .i64 (((A.length+(L'++ [y]).length:Nat):Int)-1)=((A.length+L'.length:Nat):Int):=by rw[o,dW (by omega)];omega
     rw[P];have V:A++((L'++ [y])++(x::(G++(T++B))))=(A++L')++y::(x::(G++(T++B))):=by simp
     have f2:(A++L')++y::(x::(G++(T++B)))=(A++(L'++ [y]))++x::(G++(T++B)):=by simp
     have f3:(A++(L'++ [y]))++y::(G++(T++B))=(A++L')++y::(y::(G++(T++B))):=by simp
     have f4:(A++L')++x::(y::(G++(T++B)))=A++(L'++(x::((y::G)++(T++B)))):=by simp
     rw[V]at u;have F:=u;rw[f2]at F;obtain⟨a,c,d⟩:=f7 u (i:=A.length+L'.length) (by first|omega|(simp;done)|(simp;omega))
     obtain⟨a',f,hx⟩:=f7 F (i:=A.length+(L'++ [y]).length) (by first|omega|(simp;done)|(simp;omega))
     rw[c]at f;cases f;refine⟨⟨by omega,by omega⟩,a,c,y.1,d 0 _ rfl,y.2,d 1 _ rfl,j5 z0 y.1,d 2 _ rfl,⟨by omega,by omega⟩,a,c,x.1,hx 0 _ rfl,x.2,hx 1 _ rfl,j5 z0 x.1,hx 2 _ rfl,⟨by omega,by omega⟩,a,c,?_⟩
     refine mu F y c (by first|omega|(simp;done)|(simp;omega)) fun h5 o5 W=>⟨⟨by omega,by omega⟩,a,c,?_⟩
     rw[f3]at o5;refine mu o5 x c (by first|omega|(simp;done)|(simp;omega)) fun h6 o6 k6=>?_
     rw[f4]at o6;refine X (L',y::G) _ _ ⟨rfl,by simp,fun z q=>?_,o6,(N.trans W fun b U=>.inl U).trans k6 fun b U=>.inl U⟩ (by simp only[o];omega)
     rcases List.mem_cons.1 q with rfl|q
     ·exact hxy
     ·exact hG z q
    |false=>
     refine aH.2 ?_;have P:ac .i64 (((A.length+S1.length:Nat):Int)+1)=((A.length+max 1 (S1.length+1):Nat):Int):=by rw[dW (by omega)];omega
     rw[P];refine hI (S1++ [x],L++x::G,T) _ _ ⟨by simp,by simp,fun e=>(by simp at e),L5 w n (hf rfl) hG,?_,N⟩ (by simp)
     have V:A++((L++x::G)++(T++B))=A++(L++(x::(G++(T++B)))):=by simp
     rw[V];exact u
 ·simp only[ae]at Z
  have hT:T= []:=by
   rcases cW S1.length with h0|h0
   ·exact j (aw.1 h0)
   ·exact aw.1 (by omega)
  subst hT;rw[cG]at p;rw[aZ]at hk;exact hk v R1 p n hu
theorem BX{lt:Pr→Pr→Bool}(w:WO lt){M:Nat→Prop}{Iv:af→Prop}{cmp:Value}(hc:Cmp lt (rJ z0) M Iv cmp){s:SliceV}(hn:s.len≤1000000000):∀(n:Nat) {h:af} {A U V B:List (Pr)},U.length+V.length≤n→OwnS (rJ z0) 3 aK M h s (A++(U++(V++B)))→Iv h→0<U.length→0<V.length→Srt lt U→Srt lt V→∀{a m b:Nat},a=A.length→m=A.length+U.length→b=A.length+U.length+V.length→∀{K:Unit→af→Prop},
  (∀W R,OwnS (rJ z0) 3 aK M W s (A++(R++B))→St lt (U++V) R→Upd M h W→K () W)→HC PG cJ [.slice s.a s.len s.cap,.int .i64 a,.int .i64 m,.int .i64 b,cmp] [] K h:=by
 intro n;induction n with
 |zero=>intro h A U V B hl _ _ hU;omega
 |succ n ih=>
  intro h A U V B hl ho hi hU hV sU sV a m b ha hm N K hk;refine nV s a m b cmp ?_;unfold iE aW cp bW lH pF cr Ag vW;have z:=ho.len;simp only[ae]at z;have e1:ac .i64 ((m:Int)-(a:Int))=(U.length:Int):=by rw[dW (by omega)];omega
  have e2:ac .i64 ((b:Int)-(m:Int))=(V.length:Int):=by rw[dW (by omega)];omega
  rw[e1,e2];refine CondP.intro (fun L=>?_) fun hmore=>?_
  ·have L:U.length=1:=by have:=eq_of_beq L;omega
   match U,L with
   | [u],_=>
   simp only[aQ]at z hm N;refine LoopP.ghost (fun(g:Nat×Nat) (t:Int×Int) W=>t.1=(g.1:Int)∧t.2=(g.2:Int)∧m≤g.1∧g.1≤g.2∧g.2≤b∧(∀q x,V[q]? =some x→m+q<g.1→lt x u=true)∧(∀q x,V[q]? =some x→g.2≤m+q→lt x u=false)∧OwnS (rJ z0) 3 aK M W s (A++([u]++(V++B)))∧Upd M h W) (fun g=>g.2-g.1) (m,b)
    ⟨rfl,rfl,aq _,by simp only;omega,aq _,fun q x D h=>(by simp only at h;omega),fun q x D h=>(by have:=(aY.1 D).1;simp only at h;omega),ho,Upd.refl _ _⟩ ?_
   rintro I ⟨i,j⟩ ⟨ti,tj⟩ W ⟨e1,e2,hmi,F,hjb,J,H,G,hu⟩ hI;simp only at e1 e2 hmi F hjb J H;subst e1 e2;refine av (fun S=>?_) fun hge=>?_
   ·have S:i<j:=by have:(i:Int)<(j:Int):=S;omega
    refine⟨by decide,?_⟩;simp only[Bd];rw[vz (by omega)];have hk1:(i+j)/2-m<V.length:=by omega
    have hk0:(i+j)/2=A.length+1+((i+j)/2-m):=by omega
    obtain⟨X,f,hx⟩:=rX G (i:=(i+j)/2) (x:=V[(i+j)/2-m]) (JB (U:= [u]) (k:=(i+j)/2-m) (by simp only[aQ];omega) (aj hk1));obtain⟨a2,C,T⟩:=f7 (P:=A) (x:=u) (Q:=V++B) G ha;rw[f]at C;cases C;have hVk:V[(i+j)/2-m]? =some V[(i+j)/2-m]:=aj hk1;generalize V[(i+j)/2-m]=x at hx hVk;refine⟨⟨by omega,by omega⟩,X,f,x.1,hx 0 _ rfl,x.2,hx 1 _ rfl,j5 z0 x.1,hx 2 _ rfl,⟨by omega,by omega⟩,X,f,u.1,T 0 _ rfl,u.2,T 1 _ rfl,j5 z0 u.1,T 2 _ rfl,?_⟩
    refine hc.call x u (hc.step hu hi) fun Y e k5 he=>?_
    rw[he];have ho5:=G.upd k5 fun _ _ h=>h
    have hu5:=hu.tr k5.wide;cases hxu:lt x u with
    |true=>
     refine aX.2 ?_;have ew:ac .i64 ((((i+j)/2:Nat):Int)+1)=(((i+j)/2+1:Nat):Int):=by rw[dW (by omega)];omega
     rw[ew];refine hI ((i+j)/2+1,j) _ _ ⟨rfl,rfl,by simp only;omega,by simp only;omega,hjb,fun q y D hqi=>?_,H,ho5,hu5⟩ (by simp only;omega)
     have hle:=jb w sV (i:=q) (j:=(i+j)/2-m) (by simp only at hqi;omega) D hVk;cases hyu:lt y u with
     |true=>rfl
     |false=>rw[w.ntr _ _ _ hle hyu]at hxu;cases hxu
    |false=>
     refine aH.2 ?_;refine hI (i,(i+j)/2) _ _ ⟨rfl,rfl,hmi,by simp only;omega,by simp only;omega,J,fun q y D hqi=>?_,ho5,hu5⟩ (by simp only;omega)
     have hle:=jb w sV (i:=(i+j)/2-m) (j:=q) (by simp only at hqi;omega) hVk D;exact w.ntr _ _ _ hle hxu
   ·have F:i=j:=by have:¬(i:Int)<(j:Int):=hge;omega
    subst F;obtain⟨V1,V2,rfl,hV1⟩:∃V1 V2,V=V1++V2∧V1.length=i-m:=⟨V.take (i-m),V.drop (i-m),(aL ..).symm,by rw[aO];omega⟩
    simp only[ae]at z N;have lo1:∀x∈V1,lt x u=true:=fun x hx=>by
     obtain⟨q,D,e⟩:=cd hx;exact J q x (by rw[bf D,aj D,e]) (by omega)
    have hi1:∀x∈V2,lt x u=false:=fun x hx=>by
     obtain⟨q,D,e⟩:=cd hx;exact H (V1.length+q) x (by rw[aD (by omega),cD,aj D,e]) (by omega)
    have hst:=BZ w sV lo1 hi1;have f0:A++([u]++((V1++V2)++B))=A++([]++(u::(V1++(V2++B)))):=by simp
    rw[f0]at G;have ew:ac .i64 ((i:Int)-1)=((A.length+V1.length:Nat):Int):=by rw[dW (by omega)];omega
    rw[ew];refine LoopP.ghost (fun(g:List (Pr)×List (Pr)) (t:Int) h2=>t=((A.length+g.1.length:Nat):Int)∧V1=g.1++g.2∧OwnS (rJ z0) 3 aK M h2 s (A++(g.1++(u::(g.2++(V2++B)))))∧Upd M h h2) (fun g=>g.2.length) ([],V1)
     ⟨by simp[ha],rfl,G,hu⟩ ?_
    rintro I2 ⟨G1,E⟩ t2 h2 ⟨e1,e2,o,O⟩ hI2;simp only at e1 e2 o;subst e1 e2;simp only[ae]at z N ew⊢;refine av (fun S=>?_) fun hge=>?_
    ·match E with
     | []=>simp only[aM]at S;omega
     |g::E=>
      simp only[ax]at z;have ew1:ac .i64 (((A.length+G1.length:Nat):Int)+1)=((A.length+G1.length+1:Nat):Int):=by rw[dW (by omega)];omega
      rw[ew1];have f1:A++(G1++(u::((g::E)++(V2++B))))=(A++G1)++u::(g::(E++(V2++B))):=by simp
      have f2:(A++G1)++u::(g::(E++(V2++B)))=(A++(G1++ [u]))++g::(E++(V2++B)):=by simp
      have f3:(A++G1)++g::(g::(E++(V2++B)))=(A++(G1++ [g]))++g::(E++(V2++B)):=by simp
      have f4:(A++(G1++ [g]))++u::(E++(V2++B))=A++((G1++ [g])++(u::(E++(V2++B)))):=by simp
      rw[f1]at o;have o3:=o;rw[f2]at o3;obtain⟨X,f,T⟩:=f7 o3 (i:=A.length+G1.length+1) (by first|omega|(simp;done)|(simp;omega))
      obtain⟨a2,C,hx⟩:=f7 o (i:=A.length+G1.length) (by first|omega|(simp;done)|(simp;omega))
      rw[f]at C;cases C;refine⟨⟨by omega,by omega⟩,X,f,g.1,T 0 _ rfl,g.2,T 1 _ rfl,j5 z0 g.1,T 2 _ rfl,⟨by omega,by omega⟩,X,f,u.1,hx 0 _ rfl,u.2,hx 1 _ rfl,j5 z0 u.1,hx 2 _ rfl,⟨by omega,by omega⟩,X,f,?_⟩
      refine mu o g f (by first|omega|(simp;done)|(simp;omega)) fun Y o5 k5=>⟨⟨by omega,by omega⟩,X,f,?_⟩
      rw[f3]at o5;refine mu o5 u f (by first|omega|(simp;done)|(simp;omega)) fun h6 o6 k6=>?_
      rw[f4]at o6;exact hI2 (G1++ [g],E) _ _ ⟨by simp;omega,by simp,o6,(O.trans k5 fun b N=>.inl N).trans k6 fun b N=>.inl N⟩ (by simp)
    ·have hG:E= []:=aw.1 (by omega)
     subst hG;simp only[aZ,cG]at o hst hk;refine hk h2 (G1++u::V2) ?_ hst O;have f1:A++((G1++u::V2)++B)=A++(G1++(u::(V2++B))):=by simp
     rw[f1];exact o
  refine CondP.intro (fun L=>?_) fun hmore2=>?_
  ·have L:V.length=1:=by have:=eq_of_beq L;omega
   match V,L with
   | [v],_=>
   simp only[aQ]at z N;refine LoopP.ghost (fun(g:Nat×Nat) (t:Int×Int) W=>t.1=(g.1:Int)∧t.2=(g.2:Int)∧a≤g.1∧g.1≤g.2∧g.2≤m∧(∀q x,U[q]? =some x→a+q<g.1→lt v x=false)∧(∀q x,U[q]? =some x→g.2≤a+q→lt v x=true)∧OwnS (rJ z0) 3 aK M W s (A++(U++([v]++B)))∧Upd M h W) (fun g=>g.2-g.1) (a,m)
    ⟨rfl,rfl,aq _,by simp only;omega,aq _,fun q x D h=>(by simp only at h;omega),fun q x D h=>(by have:=(aY.1 D).1;simp only at h;omega),ho,Upd.refl _ _⟩ ?_
   rintro I ⟨i,j⟩ ⟨ti,tj⟩ W ⟨e1,e2,hmi,F,hjb,J,H,G,hu⟩ hI;simp only at e1 e2 hmi F hjb J H;subst e1 e2;refine av (fun S=>?_) fun hge=>?_
   ·have S:i<j:=by have:(i:Int)<(j:Int):=S;omega
    refine⟨by decide,?_⟩;simp only[Bd];rw[vz (by omega)];have hk1:(i+j)/2-a<U.length:=by omega
    obtain⟨X,f,hx⟩:=rX G (i:=(i+j)/2) (x:=U[(i+j)/2-a]) (EY (k:=(i+j)/2-a) (by omega) (aj hk1));have f1:A++(U++([v]++B))=(A++U)++v::B:=by simp
    have o3:=G;rw[f1]at o3;obtain⟨a2,C,T⟩:=f7 o3 (i:=m) (by first|omega|(simp;done)|(simp;omega))
    rw[f]at C;cases C;have hVk:U[(i+j)/2-a]? =some U[(i+j)/2-a]:=aj hk1;generalize U[(i+j)/2-a]=x at hx hVk;refine⟨⟨by omega,by omega⟩,X,f,v.1,T 0 _ rfl,v.2,T 1 _ rfl,j5 z0 v.1,T 2 _ rfl,⟨by omega,by omega⟩,X,f,x.1,hx 0 _ rfl,x.2,hx 1 _ rfl,j5 z0 x.1,hx 2 _ rfl,?_⟩
    refine hc.call v x (hc.step hu hi) fun Y e k5 he=>?_
    rw[he];have ho5:=G.upd k5 fun _ _ h=>h
    have hu5:=hu.tr k5.wide;cases hxu:lt v x with
    |false=>
     refine aX.2 ?_;have ew:ac .i64 ((((i+j)/2:Nat):Int)+1)=(((i+j)/2+1:Nat):Int):=by rw[dW (by omega)];omega
     rw[ew];refine hI ((i+j)/2+1,j) _ _ ⟨rfl,rfl,by simp only;omega,by simp only;omega,hjb,fun q y D hqi=>?_,H,ho5,hu5⟩ (by simp only;omega)
     exact w.ntr _ _ _ hxu (jb w sU (i:=q) (j:=(i+j)/2-a) (by simp only at hqi;omega) D hVk)
    |true=>
     refine aH.2 ?_;refine hI (i,(i+j)/2) _ _ ⟨rfl,rfl,hmi,by simp only;omega,by simp only;omega,J,fun q y D hqi=>?_,ho5,hu5⟩ (by simp only;omega)
     have hle:=jb w sU (i:=(i+j)/2-a) (j:=q) (by simp only at hqi;omega) hVk D;cases hvy:lt v y with
     |true=>rfl
     |false=>rw[w.ntr _ _ _ hvy hle]at hxu;cases hxu
   ·have F:i=j:=by have:¬(i:Int)<(j:Int):=hge;omega
    subst F;obtain⟨U1,U2,rfl,hU1⟩:∃U1 U2,U=U1++U2∧U1.length=i-a:=⟨U.take (i-a),U.drop (i-a),(aL ..).symm,by rw[aO];omega⟩
    simp only[ae]at z N hm;have lo1:∀x∈U1,lt v x=false:=fun x hx=>by
     obtain⟨q,D,e⟩:=cd hx;exact J q x (by rw[bf D,aj D,e]) (by omega)
    have hi1:∀x∈U2,lt v x=true:=fun x hx=>by
     obtain⟨q,D,e⟩:=cd hx;exact H (U1.length+q) x (by rw[aD (by omega),cD,aj D,e]) (by omega)
    have hst:=DY w sU lo1 hi1;have f0:A++((U1++U2)++([v]++B))=A++(U1++(U2++(v::([]++B)))):=by simp
    rw[f0]at G;refine LoopP.ghost (fun(g:List (Pr)×List (Pr)) (t:Int) h2=>t=((A.length+U1.length+g.1.length:Nat):Int)∧U2=g.1++g.2∧OwnS (rJ z0) 3 aK M h2 s (A++(U1++(g.1++(v::(g.2++B)))))∧Upd M h h2) (fun g=>g.1.length) (U2,[])
     ⟨by simp only;omega,by simp,G,hu⟩ ?_
    rintro I2 ⟨G1,E⟩ t2 h2 ⟨e1,e2,o,O⟩ hI2;simp only at e1 e2 o;subst e1 e2;simp only[ae]at z N hm⊢;refine av (fun hgt=>?_) fun hle=>?_
    ·rcases E0 G1 with rfl|⟨G1',g,rfl⟩
     ·simp only[aM]at hgt;omega
     simp only[ae,aQ]at z N hm hgt⊢;have ew1:ac .i64 (((A.length+U1.length+(G1'.length+1):Nat):Int)-1)=((A.length+U1.length+G1'.length:Nat):Int):=by rw[dW (by omega)];omega
     rw[ew1];have f1:A++(U1++((G1'++ [g])++(v::(E++B))))=(A++(U1++(G1'++ [g])))++v::(E++B):=by simp
     have f2:(A++(U1++(G1'++ [g])))++v::(E++B)=(A++(U1++G1'))++g::(v::(E++B)):=by simp
     have f3:(A++(U1++(G1'++ [g])))++g::(E++B)=(A++(U1++G1'))++g::(g::(E++B)):=by simp
     have f4:(A++(U1++G1'))++v::(g::(E++B))=A++(U1++(G1'++(v::((g::E)++B)))):=by simp
     rw[f1]at o;have o3:=o;rw[f2]at o3;obtain⟨X,f,T⟩:=f7 o3 (i:=A.length+U1.length+G1'.length) (by first|omega|(simp;done)|(simp;omega))
     obtain⟨a2,C,hx⟩:=f7 o (i:=A.length+U1.length+(G1'.length+1)) (by first|omega|(simp;done)|(simp;omega))
     rw[f]at C;cases C;refine⟨⟨by omega,by omega⟩,X,f,g.1,T 0 _ rfl,g.2,T 1 _ rfl,j5 z0 g.1,T 2 _ rfl,⟨by omega,by omega⟩,X,f,v.1,hx 0 _ rfl,v.2,hx 1 _ rfl,j5 z0 v.1,hx 2 _ rfl,⟨by omega,by omega⟩,X,f,?_⟩
     refine mu o g f (by first|omega|(simp;done)|(simp;omega)) fun Y o5 k5=>⟨⟨by omega,by omega⟩,X,f,?_⟩
     rw[f3]at o5;refine mu o5 v f (by first|omega|(simp;done)|(simp;omega)) fun h6 o6 k6=>?_
     rw[f4]at o6;exact hI2 (G1',g::E) _ _ ⟨rfl,by simp,o6,(O.trans k5 fun b N=>.inl N).trans k6 fun b N=>.inl N⟩ (by simp)
    ·have hG:G1= []:=aw.1 (by omega)
     subst hG;simp only[cG]at o hst hk;refine hk h2 (U1++v::E) ?_ hst O;have f1:A++((U1++v::E)++B)=A++(U1++(v::(E++B))):=by simp
     rw[f1];exact o
  have hU2:2≤U.length:=by
   have:(U.length:Int)≠1:=by simpa using hmore
   omega
  have hV2:2≤V.length:=by
   have:(V.length:Int)≠1:=by simpa using hmore2
   omega
  refine⟨by decide,?_⟩;simp only[Bd];rw[vz (i:=a) (j:=b) (by omega)];obtain⟨d,hmid⟩:∃d,(a+b)/2=d:=⟨_,rfl⟩;rw[hmid];have em:ac .i64 ((d:Int)+(m:Int))=((d+m:Nat):Int):=by rw[dW (by omega)];omega
  rw[em];have ep:ac .i64 (((d+m:Nat):Int)-1)=((d+m-1:Nat):Int):=by rw[dW (by omega)];omega
  rw[ep];refine Join.intro (fun t W=>W=h∧∃s0 r0:Nat,t=((s0:Int),(r0:Int))∧a≤s0∧s0≤r0∧r0≤m∧r0≤d∧d+m≤b+s0∧(r0=d∨r0=m)∧(s0=a∨s0+b=d+m)) (fun Rj hRj=>?_) ?_
  ·refine av (fun hgt=>?_) fun hle=>?_
   ·have es:ac .i64 (((d+m:Nat):Int)-(b:Int))=((d+m-b:Nat):Int):=by rw[dW (by omega)];omega
    rw[es];exact hRj _ _ ⟨rfl,_,_,rfl,by omega,by omega,by omega,by omega,by omega,by omega,by omega⟩
   ·exact hRj _ _ ⟨rfl,_,_,rfl,by omega,by omega,by omega,by omega,by omega,by omega,by omega⟩
  rintro t W ⟨rfl,s0,r0,rfl,hs0,hsr,hrm,hrd,hsb,hr0,hs00⟩;refine LoopP.ghost (fun(g:Nat×Nat) (t:Int×Int) h2=>t.1=(g.1:Int)∧t.2=(g.2:Int)∧s0≤g.1∧g.1≤g.2∧g.2≤r0∧(∀c x y,s0≤c→c<g.1→U[c-a]? =some x→V[d-1-c]? =some y→lt y x=false)∧(∀c x y,g.2≤c→c<r0→U[c-a]? =some x→V[d-1-c]? =some y→lt y x=true)∧OwnS (rJ z0) 3 aK M h2 s (A++(U++(V++B)))∧Upd M W h2) (fun g=>g.2-g.1) (s0,r0)
   ⟨rfl,rfl,aq _,hsr,aq _,fun c x y h1 h2=>(by simp only at h2;omega),fun c x y h1 h2=>(by simp only at h1;omega),ho,Upd.refl _ _⟩ ?_
  rintro I ⟨i,j⟩ ⟨ti,tj⟩ h2 ⟨e1,e2,hsi,F,hjr,J,H,o,O⟩ hI;simp only at e1 e2 hsi F hjr J H;subst e1 e2;refine av (fun S=>?_) fun hge=>?_
  ·have S:i<j:=by have:(i:Int)<(j:Int):=S;omega
   refine⟨by decide,?_⟩;rw[vz (i:=i) (j:=j) (by omega)];obtain⟨c,hcc⟩:∃c,(i+j)/2=c:=⟨_,rfl⟩;rw[hcc];have hci:i≤c:=by omega
   have hcj:c<j:=by omega
   have eq:ac .i64 (((d+m-1:Nat):Int)-(c:Int))=((d+m-1-c:Nat):Int):=by rw[dW (by omega)];omega
   rw[eq];have hk1:c-a<U.length:=by omega
   have hk2:d-1-c<V.length:=by omega
   obtain⟨X,f,hx⟩:=rX o (i:=c) (x:=U[c-a]) (EY (k:=c-a) (by omega) (aj hk1));obtain⟨a2,C,T⟩:=rX o (i:=d+m-1-c) (x:=V[d-1-c]) (JB (k:=d-1-c) (by omega) (aj hk2));rw[f]at C;cases C;have hUc:U[c-a]? =some U[c-a]:=aj hk1;have hVc:V[d-1-c]? =some V[d-1-c]:=aj hk2;generalize U[c-a]=x at hx hUc
   generalize V[d-1-c]=y at T hVc;refine⟨⟨by omega,by omega⟩,X,f,y.1,T 0 _ rfl,y.2,T 1 _ rfl,j5 z0 y.1,T 2 _ rfl,⟨by omega,by omega⟩,X,f,x.1,hx 0 _ rfl,x.2,hx 1 _ rfl,j5 z0 x.1,hx 2 _ rfl,?_⟩
   refine hc.call y x (hc.step O hi) fun Y e k5 he=>?_
   rw[he];have ho5:=o.upd k5 fun _ _ h=>h
   have hu5:=O.tr k5.wide;cases hyx:lt y x with
   |false=>
    refine aX.2 ?_;have ew:ac .i64 ((c:Int)+1)=((c+1:Nat):Int):=by rw[dW (by omega)];omega
    rw[ew];refine hI (c+1,j) _ _ ⟨rfl,rfl,by simp only;omega,by simp only;omega,hjr,fun c' x' y' h1 h2 hx' hy'=>?_,H,ho5,hu5⟩ (by simp only;omega)
    simp only at h2;have q1:=jb w sU (i:=c'-a) (j:=c-a) (by omega) hx' hUc;have q2:=jb w sV (i:=d-1-c) (j:=d-1-c') (by omega) hVc hy';exact w.ntr _ _ _ (w.ntr _ _ _ q2 hyx) q1
   |true=>
    refine aH.2 ?_;refine hI (i,c) _ _ ⟨rfl,rfl,hsi,hci,by simp only;omega,J,fun c' x' y' h1 h2 hx' hy'=>?_,ho5,hu5⟩ (by simp only;omega)
    simp only at h1;have q1:=jb w sU (i:=c-a) (j:=c'-a) (by omega) hUc hx';have q2:=jb w sV (i:=d-1-c') (j:=d-1-c) (by omega) hy' hVc;cases hyx':lt y' x' with
    |true=>rfl
    |false=>rw[w.ntr _ _ _ (w.ntr _ _ _ q2 hyx') q1]at hyx;cases hyx
  have F:i=j:=by have:¬(i:Int)<(j:Int):=hge;omega
  subst F;have en:ac .i64 (((d+m:Nat):Int)-(i:Int))=((d+m-i:Nat):Int):=by rw[dW (by omega)];omega
  simp only;rw[en];obtain⟨U1,U2,eU,hU1⟩:∃U1 U2,U=U1++U2∧U1.length=i-a:=⟨U.take (i-a),U.drop (i-a),(aL ..).symm,by rw[aO];omega⟩
  obtain⟨V1,V2,eV,hV1⟩:∃V1 V2,V=V1++V2∧V1.length=d-i:=⟨V.take (d-i),V.drop (d-i),(aL ..).symm,by rw[aO];omega⟩
  have c1:∀v∈V1,∀u∈U2,lt v u=true:=fun v hv u hu=>by
   obtain⟨q,D,e⟩:=cd hv;obtain⟨p,hp,e'⟩:=cd hu;have hlU:U.length=U1.length+U2.length:=by rw[eU,ae]
   have n1:0<U2.length:=by omega
   have n2:d-1-i<V1.length:=by omega
   have gx:U[i-a]? =some (U2[0]'n1):=by rw[eU,aD (by omega),←hU1,dJ,aj (by omega)]
   have gy:V[d-1-i]? =some (V1[d-1-i]'n2):=by rw[eV,bf (by omega),aj (by omega)]
   have hQ:=H i _ _ (aq _) (by omega) gx gy;have q1:=jb w sU (i:=i-a) (j:=i-a+p) (by omega) gx (by rw[eU,aD (by omega),←hU1,cD,aj hp,e']);have q2:=jb w sV (i:=q) (j:=d-1-i) (by omega) (by rw[eV,bf D,aj D,e]) gy;cases hvu:lt v u with
   |true=>rfl
   |false=>rw[w.ntr _ _ _ (w.ntr _ _ _ q2 hvu) q1]at hQ;cases hQ
  have c2:∀u∈U1,∀v∈V2,lt v u=false:=fun u hu v hv=>by
   obtain⟨p,hp,e'⟩:=cd hu;obtain⟨q,D,e⟩:=cd hv;have hlV:V.length=V1.length+V2.length:=by rw[eV,ae]
   have n1:i-1-a<U1.length:=by omega
   have n2:0<V2.length:=by omega
   have gx:U[i-1-a]? =some (U1[i-1-a]'n1):=by rw[eU,bf (by omega),aj (by omega)]
   have gy:V[d-1-(i-1)]? =some (V2[0]'n2):=by rw[eV,aD (by omega),show d-1-(i-1)-V1.length=0 by omega,aj (by omega)]
   have hQ:=J (i-1) _ _ (by omega) (by omega) gx gy;have q1:=jb w sU (i:=p) (j:=i-1-a) (by omega) (by rw[eU,bf hp,aj hp,e']) gx;have q2:=jb w sV (i:=d-i) (j:=d-i+q) (by omega) (by rw[eV,aD (by omega),hV1,dJ,aj (by omega)]) (by rw[eV,aD (by omega),hV1,cD,aj D,e])
   have gy2:V[d-i]? =some (V2[0]'n2):=by rw[eV,aD (by omega),hV1,dJ,aj (by omega)]
   exact w.ntr _ _ _ (w.ntr _ _ _ q2 hQ) q1
  subst eU eV;simp only[ae]at z hU hV hl hm N hU2 hV2;have sA1:=sU.left;have sA2:=sU.right;have sB1:=sV.left;have sB2:=sV.right;refine Join.intro (fun _ h3=>OwnS (rJ z0) 3 aK M h3 s (A++(U1++(V1++(U2++(V2++B)))))∧Upd M W h3) (fun Rj hRj=>?_) ?_
  ·have f1:A++((U1++U2)++((V1++V2)++B))=(A++U1)++(U2++(V1++(V2++B))):=by simp
   have f2:(A++U1)++(V1++(U2++(V2++B)))=A++(U1++(V1++(U2++(V2++B)))):=by simp
   refine Join.intro (fun t h3=>h3=h2∧(t=true↔0<U2.length∧0<V1.length)) (fun Rk Z=>?_) ?_
   ·refine av (fun h=>Z _ _ ⟨rfl,?_⟩) fun h=>Z _ _ ⟨rfl,⟨fun h=>(by cases h),fun h=>(by omega)⟩⟩
    rw[decide_eq_true_iff];constructor
    ·intro h;constructor<;>omega
    ·rintro⟨h1,h2⟩;omega
   ·rintro t h3 ⟨rfl,ht⟩
    cases t with
    |true=>
     obtain⟨p1,p2⟩:=ht.1 rfl;rw[f1]at o;refine aX.2 (Mh o hn p1 p2 (by rw[ae];omega) (by rw[ae];omega) (by rw[ae];omega) fun h4 o4 k4=>hRj _ _ ⟨?_,O.trans k4 fun b N=>.inl N⟩)
     rw[f2]at o4;exact o4
    |false=>
     have hz:U2= []∨V1= []:=by
      rcases cW U2.length with h|h
      ·exact .inl (aw.1 h)
      ·rcases cW V1.length with h3|h3
       ·exact .inr (aw.1 h3)
       ·have:=ht.2 ⟨h,h3⟩;cases this
     refine aH.2 (hRj _ _ ⟨?_,O⟩);rw[f1]at o;rw[←f2];rcases hz with rfl|rfl
     ·exact o
     ·exact o
  rintro _ h3 ⟨o3,k3⟩;refine Join.intro (fun _ h4=>∃R1,OwnS (rJ z0) 3 aK M h4 s (A++(R1++(U2++(V2++B))))∧St lt (U1++V1) R1∧Upd M W h4) (fun Rj hRj=>?_) ?_
  ·refine Join.intro (fun t h4=>h4=h3∧(t=true↔0<U1.length∧0<V1.length)) (fun Rk Z=>?_) ?_
   ·refine av (fun h=>Z _ _ ⟨rfl,?_⟩) fun h=>Z _ _ ⟨rfl,⟨fun h=>(by cases h),fun h=>(by omega)⟩⟩
    rw[decide_eq_true_iff];constructor
    ·intro h;constructor<;>omega
    ·rintro⟨h1,h2⟩;omega
   ·rintro t h4 ⟨rfl,ht⟩
    cases t with
    |true=>
     obtain⟨p1,p2⟩:=ht.1 rfl;refine aX.2 (ih (by omega) o3 (hc.step k3 hi) p1 p2 sA1 sB1 ha (by omega) (by omega) fun Y R1 o5 s5 k5=>hRj _ _ ⟨R1,o5,s5,k3.trans k5 fun b N=>.inl N⟩)
    |false=>
     refine aH.2 (hRj _ _ ⟨U1++V1,by simpa using o3,⟨Eqf.rfl _,?_⟩,k3⟩)
     rcases cW U1.length with h|h
     ·rw[aw.1 h];exact sB1
     ·rcases cW V1.length with Y|Y
      ·rw[aw.1 Y,aZ];exact sA1
      ·have:=ht.2 ⟨h,Y⟩;cases this
  rintro _ h4 ⟨R1,o4,s1,k4⟩;have hR1:=s1.eqf.len;rw[ae]at hR1;have fin:∀{Y:af} {R2:List (Pr)},OwnS (rJ z0) 3 aK M Y s (A++(R1++(R2++B)))→St lt (U2++V2) R2→Upd M W Y→K () Y:=fun{Y R2} o5 s2 k5=>by
   refine hk Y (R1++R2) ?_ (HP w sU sV c1 c2 s1 s2) k5;rw[aF];exact o5
  refine Join.intro (fun t Y=>Y=h4∧(t=true↔0<U2.length∧0<V2.length)) (fun Rk Z=>?_) ?_
  ·refine av (fun h=>Z _ _ ⟨rfl,?_⟩) fun h=>Z _ _ ⟨rfl,⟨fun h=>(by cases h),fun h=>(by omega)⟩⟩
   rw[decide_eq_true_iff];constructor
   ·intro h;constructor<;>omega
   ·rintro⟨h1,h2⟩;omega
  ·rintro t Y ⟨rfl,ht⟩
   have f1:A++(R1++(U2++(V2++B)))=(A++R1)++(U2++(V2++B)):=by simp
   cases t with
   |true=>
    obtain⟨p1,p2⟩:=ht.1 rfl;rw[f1]at o4;refine aX.2 (ih (by omega) o4 (hc.step k4 hi) p1 p2 sA2 sB2 (by rw[ae];omega) (by rw[ae];omega) (by rw[ae];omega) fun h6 R2 o6 s6 k6=>fin (R2:=R2) ?_ s6 (k4.trans k6 fun b N=>.inl N))
    rw[aF]at o6;exact o6
   |false=>
    refine aH.2 (fin (R2:=U2++V2) (by simpa using o4) ⟨Eqf.rfl _,?_⟩ k4);rcases cW U2.length with h|h
    ·rw[aw.1 h];exact sB2
    ·rcases cW V2.length with h6|h6
     ·rw[aw.1 h6,aZ];exact sA2
     ·have:=ht.2 ⟨h,h6⟩;cases this
theorem L4{lt:Pr→Pr→Bool}(w:WO lt){M:Nat→Prop}{Iv:af→Prop}{i:Value}(hc:Cmp lt (rJ z0) M Iv i){h:af}{s:SliceV}{xs:List (Pr)}(ho:OwnS (rJ z0) 3 aK M h s xs)(hi:Iv h)(hn:xs.length≤100000000){K:Unit→af→Prop}
  (hk:∀c R,OwnS (rJ z0) 3 aK M c s R→St lt xs R→Upd M h c→K () c):HC PG cM [.slice s.a s.len s.cap,i] [] K h:=by
 refine js s i ?_;unfold fa;refine oZ s (s.len:Int) i ?_;unfold jk;have n:=ho.len;have f:s.len≤1000000000:=by omega
 refine LoopP.ghost (fun(g:List (Pr)×List (Pr)×List (Pr)) (t:Int×Int) c=>t.1=(g.2.1.length:Int)∧t.2=((g.2.1.length+20:Nat):Int)∧xs=g.1++g.2.2∧Eqf lt g.1 g.2.1∧Full lt 20 g.2.1∧OwnS (rJ z0) 3 aK M c s (g.2.1++g.2.2)∧Upd M h c) (fun g=>g.2.2.length) ([],[],xs)
  ⟨rfl,rfl,rfl,Eqf.rfl _,Full.nil,ho,Upd.refl _ _⟩ ?_
 rintro I ⟨X,D,T⟩ ⟨ta,tb⟩ h1 ⟨k,G,U,e,m,F,k1⟩ hI;simp only at k G U e m F;subst k G U;have hXD:=e.len;simp only[ae]at n hn;refine av (fun hle=>?_) fun N=>?_
 ·obtain⟨S,T',rfl,hS⟩:∃S T',T=S++T'∧S.length=20:=⟨T.take 20,T.drop 20,(aL ..).symm,by rw[aO];omega⟩
  refine D9 w hc F (hc.step k1 hi) f rfl (b:=D.length+20) (by omega) fun h2 R A v Q=>?_
  have B:=v.eqf.len;simp only[ae]at n hn;have O:ac .i64 (((D.length+20:Nat):Int)+20)=(((D++R).length+20:Nat):Int):=by rw[ae,dW (by omega)];omega
  rw[O];refine hI (X++S,D++R,T') _ _ ⟨by simp only[ae];omega,rfl,by simp,e.app v.eqf,m.app (by omega) v.srt,by rw[aF];exact A,k1.trans Q fun b x=>.inl x⟩ (by simp only[ae];omega)
 have W:D++T=D++(T++ []):=by simp
 rw[W]at F;refine D9 w hc F (hc.step k1 hi) f rfl (b:=s.len) (by omega) fun h2 R A v Q=>?_
 have B:=v.eqf.len;rw[aZ]at A;have o:Eqf lt (X++T) (D++R):=e.app v.eqf;have J:Runs lt 20 (D++R):=m R (.last R (by omega) v.srt);have Q:Upd M h h2:=k1.trans Q fun b x=>.inl x
 generalize D++R=ys at A o J;generalize X++T=zs at o hk;have d:s.len=ys.length:=A.len;clear hI e m F W N B;refine LoopP.ghost (fun(g:Nat×List (Pr)) (t:Int) c=>t=(g.1:Int)∧0<g.1∧g.1≤200000000∧Runs lt g.1 g.2∧Eqf lt zs g.2∧OwnS (rJ z0) 3 aK M c s g.2∧Upd M h c) (fun g=>s.len-g.1) (20,ys)
  ⟨rfl,by simp,by simp,J,o,A,Q⟩ ?_
 rintro I2 ⟨bs,ys⟩ t h3 ⟨k,hb0,hb1,hr,p,V,k3⟩ Z;simp only at k hb0 hb1 hr p V;subst k;have d:s.len=ys.length:=V.len;refine av (fun hlt=>?_) fun hge=>?_
 ·have hlt:bs<s.len:=by omega
  have e0:ac .i64 (2*(bs:Int))=((2*bs:Nat):Int):=by rw[dW (by omega)];omega
  rw[e0];refine LoopP.ghost (fun(g:List (Pr)×List (Pr)×List (Pr)) (t:Int×Int) c=>t.1=(g.2.1.length:Int)∧t.2=((g.2.1.length+2*bs:Nat):Int)∧ys=g.1++g.2.2∧Eqf lt g.1 g.2.1∧Full lt (2*bs) g.2.1∧Runs lt bs g.2.2∧OwnS (rJ z0) 3 aK M c s (g.2.1++g.2.2)∧Upd M h c) (fun g=>g.2.2.length) ([],[],ys)
   ⟨rfl,by simp,rfl,Eqf.rfl _,Full.nil,hr,V,k3⟩ ?_
  rintro I3 ⟨Y,D,T⟩ ⟨ta,tb⟩ h4 ⟨k,G,U,e,m,j,H,C⟩ hI3;simp only at k G U e m j H;subst k G U;have hYD:=e.len;simp only[ae]at d;have ea:ac .i64 ((D.length:Int)+(bs:Int))=((D.length+bs:Nat):Int):=by rw[dW (by omega)];omega
  simp only;rw[ea];refine av (fun hle=>?_) fun N=>?_
  ·obtain⟨B1,T1,rfl,hB1,q,y⟩:=j.split (by omega)
   simp only[ae]at d;obtain⟨B2,T2,rfl,hB2,sB2,hr2⟩:=y.split (by omega);simp only[ae]at d;refine BX w hc f (B1.length+B2.length) (aq _) H (hc.step C hi) (by omega) (by omega) q sB2 rfl (by omega) (by omega) fun E R z u L=>?_
   have B:=u.eqf.len;rw[ae]at B;have O:ac .i64 (((D.length+2*bs:Nat):Int)+((2*bs:Nat):Int))=(((D++R).length+2*bs:Nat):Int):=by rw[ae,dW (by omega)];omega
   rw[O];refine hI3 (Y++(B1++B2),D++R,T2) _ _ ⟨by simp only[ae];omega,rfl,by simp,e.app u.eqf,m.app (by omega) u.srt,hr2,by rw[aF];exact z,C.trans L fun b x=>.inl x⟩ (by simp only[ae];omega)
  ·refine Join.intro (fun _ E=>∃R,Eqf lt T R∧Runs lt (2*bs) R∧OwnS (rJ z0) 3 aK M E s (D++R)∧Upd M h E) (fun Rj P=>?_) ?_
   ·refine av (fun hmn=>?_) fun hmn=>?_
    ·obtain⟨B1,T1,rfl,hB1,q,y⟩:=j.split (by omega)
     simp only[ae]at d;have W:D++(B1++T1)=D++(B1++(T1++ [])):=by simp
     rw[W]at H;refine BX w hc f (B1.length+T1.length) (aq _) H (hc.step C hi) (by omega) (by omega) q (y.short (by omega)) rfl (by omega) (by omega) fun E R z u L=>?_
     have B:=u.eqf.len;rw[ae]at B;rw[aZ]at z;exact P _ _ ⟨R,u.eqf,.last R (by omega) u.srt,z,C.trans L fun b x=>.inl x⟩
    ·exact P _ _ ⟨T,Eqf.rfl _,.last T (by omega) (j.short (by omega)),H,C⟩
   ·rintro _ E ⟨R,q5,r5,z,L⟩
    have O:ac .i64 ((bs:Int)*2)=((2*bs:Nat):Int):=by rw[dW (by omega)];omega
    rw[O];exact Z (2*bs,D++R) _ _ ⟨rfl,by simp only;omega,by simp only;omega,m R r5,p.tr (e.app q5),z,L⟩ (by simp only;omega)
 ·exact hk h3 ys V ⟨p,hr.short (by omega)⟩ k3
end Go.Proofs
