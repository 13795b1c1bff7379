/- A part of the proof that the named laws of this program answer true, whatever the input. -/
import Derived.Test.YtceikogjngfacaaGreatPart2
import Derived.Test.YtceikogjngfacaaGreatPart3
open Go.IntKind renaming wrap→ac
open List renaming length_append→af,length_nil→aQ,length_cons→av,length_eq_zero_iff→ax,append_nil→bi,nil_append→bZ,take_append_drop→aN,length_take→aL,length_drop→aW,append_assoc→aw,mem_append→be,mem_singleton→aq,mem_cons→ar,length_singleton→aI,getElem?_eq_some_iff→bv,getElem?_eq_getElem→ag,getElem_of_mem→ct,getElem?_append_left→bw,getElem?_append_right→aH,mem_of_getLast?→ir,mem_filter→dG,mem_cons_of_mem→aA,mem_cons_self→aD,pairwise_cons→bF
open List.Pairwise renaming nil→dh
open Nat renaming eq_zero_or_pos→cU,le_refl→ai,add_sub_cancel_left→cy,sub_self→di
namespace Go.Proofs
open Go Go.Lift
theorem vB{M:Nat→Prop}{h:ae}{s:SliceV}{A U C V B:List (Pr)}(G:OwnS fw 2 201 M h s (A++(U++(C++(V++B)))))(hn:s.len≤1000000000)(f:U.length=V.length){a b:Nat}(e:a=A.length)(x:b=A.length+U.length+C.length){n:Nat}(D:n=U.length){p:Value}{K:Unit→ae→Prop}
  (N:∀j,OwnS fw 2 201 M j s (A++(V++(C++(U++B))))→Upd M h j→K () j):eJ 289 [.slice s.a s.len s.cap,.int .i64 a,.int .i64 b,.int .i64 n,p] K h:=by
 subst e x D;refine eM (jk s A.length (A.length+U.length+C.length:Nat) U.length p) nZ Tryz.func289 Tryz.call289 ?_;dsimp only[jk,iR,Oj,cg,ic,ji,HL,vz];have d:=G.len;simp only[af]at d;refine LoopP.ghost (fun(g:(List (Pr)×List (Pr))×List (Pr)×List (Pr)) (t:Int) j=>t=(g.1.1.length:Int)∧U=g.1.1++g.1.2∧V=g.2.1++g.2.2∧g.1.1.length=g.2.1.length∧OwnS fw 2 201 M j s (A++(g.2.1++(g.1.2++(C++(g.1.1++(g.2.2++B))))))∧Upd M h j) (fun g=>g.1.2.length) (([],U),[],V)
  ⟨rfl,rfl,rfl,rfl,G,Upd.refl _ _⟩ ?_
 rintro I ⟨⟨U1,U2⟩,V1,V2⟩ t j ⟨L,R,P,J,c,H⟩ hI;(try simp only at L R P J c)
 subst L R P;simp only[af]at f d;refine ak (fun o=>?_) fun z=>?_
 ·simp only[af]at o
  match U2,V2 with
  | [],_=>simp only[aQ]at o;omega
  |_::_,[]=>simp only[aQ,av]at f;omega
  |u::U2,v::V2=>
   simp only[av]at f d;simp only[af,av];have E:ac .i64 (((A.length+(U1.length+(U2.length+1))+C.length:Nat):Int)+(U1.length:Int))=((A.length+(U1.length+(U2.length+1))+C.length+U1.length:Nat):Int):=by rw[dL (by omega)];omega
   have F:ac .i64 ((A.length:Int)+(U1.length:Int))=((A.length+U1.length:Nat):Int):=by rw[dL (by omega)];omega
   rw[E,F];have Z:A++(V1++((u::U2)++(C++(U1++((v::V2)++B)))))=(A++V1)++u::(U2++(C++(U1++(v::V2++B)))):=by simp
   have Y:(A++V1)++u::(U2++(C++(U1++(v::V2++B))))=((A++V1)++u::(U2++(C++U1)))++v::(V2++B):=by simp
   have f3:(A++V1)++v::(U2++(C++(U1++(v::V2++B))))=((A++V1)++v::(U2++(C++U1)))++v::(V2++B):=by simp
   have X:((A++V1)++v::(U2++(C++U1)))++u::(V2++B)=A++((V1++ [v])++(U2++(C++((U1++ [u])++(V2++B))))):=by simp
   rw[Z]at c;obtain⟨a,e,w⟩:=fF c (i:=A.length+U1.length) (by rw[af];omega);have m:=c;rw[Y]at m;obtain⟨a',q,y⟩:=fF m (i:=A.length+(U1.length+(U2.length+1))+C.length+U1.length) (by simp only[af,av];omega);rw[e]at q;cases q;refine⟨⟨by omega,by omega⟩,a,e,v.1,y 0 _ rfl,v.2,y 1 _ rfl,⟨by omega,by omega⟩,a,e,u.1,w 0 _ rfl,u.2,w 1 _ rfl,⟨by omega,by omega⟩,a,e,?_⟩
   refine lY c v e (by rw[af];omega) fun h2 Q W=>⟨⟨by omega,by omega⟩,a,e,?_⟩
   rw[f3]at Q;refine lY Q u e (by first|omega|(simp;done)|(simp;omega)) fun h3 O T=>?_
   rw[X]at O;rw[tc (n:=U1.length+(U2.length+1)) (by omega) (by omega)];exact hI ((U1++ [u],U2),V1++ [v],V2) _ _ ⟨by simp,by simp,by simp,by simp[J],O,(H.trans W fun b x=>.inl x).trans T fun b x=>.inl x⟩ (by simp)
 ·simp only[af]at z
  have S:U2= []:=ax.1 (by omega);have h2:V2= []:=ax.1 (by rw[S,aQ]at f;omega);subst S h2;simp only[bi,bZ]at c N;exact N j c H
theorem Pa{M:Nat→Prop}{h:ae}{s:SliceV}{A U V B:List (Pr)}(R:OwnS fw 2 201 M h s (A++(U++(V++B))))(Q:s.len≤1000000000)(X:0<U.length)(W:0<V.length){a m b:Nat}(ha:a=A.length)(hm:m=A.length+U.length)(v:b=A.length+U.length+V.length){C:Value}{K:Unit→ae→Prop}
  (Z:∀p,OwnS fw 2 201 M p s (A++(V++(U++B)))→Upd M h p→K () p):eJ 269 [.slice s.a s.len s.cap,.int .i64 a,.int .i64 m,.int .i64 b,C] K h:=by
 subst ha hm v;refine eM (kf s A.length (A.length+U.length:Nat) (A.length+U.length+V.length:Nat) C) pF Tryz.func269 Tryz.call269 ?_;unfold kf;have z:=R.len;simp only[af]at z;have F:ac .i64 (((A.length+U.length:Nat):Int)-(A.length:Int))=(U.length:Int):=by rw[dL (by omega)];omega
 have G:ac .i64 (((A.length+U.length+V.length:Nat):Int)-((A.length+U.length:Nat):Int))=(V.length:Int):=by rw[dL (by omega)];omega
 rw[F,G];refine LoopP.ghost (fun(g:(List (Pr)×List (Pr))×List (Pr)×List (Pr)) (t:Int×Int) p=>t.1=(g.1.2.length:Int)∧t.2=(g.2.1.length:Int)∧0<g.1.2.length∧0<g.2.1.length∧A.length+U.length=g.1.1.length+g.1.2.length∧g.1.1++(g.2.1++(g.1.2++g.2.2))=A++(V++(U++B))∧OwnS fw 2 201 M p s (g.1.1++(g.1.2++(g.2.1++g.2.2)))∧Upd M h p) (fun g=>g.1.2.length+g.2.1.length) ((A,U),V,B)
  ⟨rfl,rfl,X,W,rfl,rfl,R,Upd.refl _ _⟩ ?_
 rintro I ⟨⟨A',U'⟩,V',f⟩ ⟨ti,tj⟩ p ⟨F,G,P,O,o,e,c,L⟩ T;simp only at F G P O o e c;subst F G;have d:=c.len;simp only[af]at d;have N:((A.length+U.length:Nat):Int)=((A'.length+U'.length:Nat):Int):=by omega
 rw[N];have S:ac .i64 (((A'.length+U'.length:Nat):Int)-(U'.length:Int))=(A'.length:Int):=by rw[dL (by omega)];omega
 simp only;rw[S];refine CondP.intro (fun i=>?_) fun E=>?_
 ·have i:(U'.length:Int)≠(V'.length:Int):=by simpa using i
  refine ak (fun y=>?_) fun hle=>?_
  ·
   have y:V'.length<U'.length:=by omega
   obtain⟨U1,U2,rfl,j⟩:∃U1 U2,U'=U1++U2∧U1.length=V'.length:=⟨U'.take V'.length,U'.drop V'.length,(aN ..).symm,by rw[aL];omega⟩
   simp only[af]at y d o i S;have D:A'++((U1++U2)++(V'++f))=A'++(U1++(U2++(V'++f))):=by simp
   have Y:A'++(V'++(U2++(U1++f)))=(A'++V')++(U2++(U1++f)):=by simp
   rw[D]at c;refine vB c Q j rfl (b:=A'.length+(U1++U2).length) (by simp only[af];omega) (n:=V'.length) j.symm fun h2 q w=>?_
   rw[Y]at q;have u:ac .i64 (((U1++U2).length:Int)-(V'.length:Int))=(U2.length:Int):=by rw[af,dL (by omega)];omega
   rw[u];refine T ((A'++V',U2),U1,f) _ _ ⟨rfl,by simp only;omega,by simp only;omega,by simp only;omega,by simp only[af];omega,?_,q,L.trans w fun b v=>.inl v⟩ (by simp only[af];omega)
   rw[←e];simp
  ·have H:U'.length<V'.length:=by omega
   obtain⟨V1,V2,rfl,j⟩:∃V1 V2,V'=V1++V2∧V2.length=U'.length:=⟨V'.take (V'.length-U'.length),V'.drop (V'.length-U'.length),(aN ..).symm,by rw[aW];omega⟩
   simp only[af]at H d i;have u:ac .i64 ((ac .i64 (((A'.length+U'.length:Nat):Int)+((V1++V2).length:Int)))-(U'.length:Int))=((A'.length+U'.length+V1.length:Nat):Int):=by
    rw[af,dL (x:=((A'.length+U'.length:Nat):Int)+((V1.length+V2.length:Nat):Int)) (by omega),dL (by omega)];omega
   rw[u];have D:A'++(U'++((V1++V2)++f))=A'++(U'++(V1++(V2++f))):=by simp
   rw[D]at c;refine vB c Q j.symm rfl rfl rfl fun h2 q w=>?_
   have J:ac .i64 (((V1++V2).length:Int)-(U'.length:Int))=(V1.length:Int):=by rw[af,dL (by omega)];omega
   rw[J];refine T ((A',V2),V1,U'++f) _ _ ⟨by simp only;omega,rfl,by simp only;omega,by simp only;omega,by simp only;omega,?_,q,L.trans w fun b v=>.inl v⟩ (by simp only[af];omega)
   rw[←e];simp
 ·have E:(U'.length:Int)=(V'.length:Int):=by simpa using E
  have D:A'++(U'++(V'++f))=A'++(U'++([]++(V'++f))):=by simp
  rw[D]at c;refine vB c Q (by omega) rfl (b:=A'.length+U'.length) (by simp) rfl fun h2 q w=>?_
  rw[bZ,e]at q;exact Z h2 q (L.trans w fun b v=>.inl v)
theorem EO{lt:Pr→Pr→Bool}(w:WO lt){M:Nat→Prop}{Iv:ae→Prop}{E:Value}(hc:Cmp lt fw M Iv E){h:ae}{s:SliceV}{A S B:List (Pr)}(ho:OwnS fw 2 201 M h s (A++(S++B)))(hi:Iv h)(hn:s.len≤1000000000){a b:Nat}(c:a=A.length)(W:b=A.length+S.length){K:Unit→ae→Prop}
  (hk:∀C R,OwnS fw 2 201 M C s (A++(R++B))→St lt S R→Upd M h C→K () C):eJ 239 [.slice s.a s.len s.cap,.int .i64 a,.int .i64 b,E] K h:=by
 subst c W;refine eM (hO s A.length (A.length+S.length:Nat) E) mz Tryz.func239 Tryz.call239 ?_;dsimp only[hO,nU,pN,Oj,cg,ic,ji,sM,CS,fG,VP,iR,HL,vz];have f:=ho.len;simp only[af]at f;have ea:ac .i64 ((A.length:Int)+1)=((A.length+1:Nat):Int):=by rw[dL (by omega)];omega
 rw[ea];refine LoopP.ghost (fun(g:List (Pr)×List (Pr)×List (Pr)) (t:Int) C=>t=((A.length+max 1 g.1.length:Nat):Int)∧S=g.1++g.2.2∧(g.1= []→g.2.2= [])∧St lt g.1 g.2.1∧OwnS fw 2 201 M C s (A++(g.2.1++(g.2.2++B)))∧Upd M h C) (fun g=>g.2.2.length) (S.take 1,S.take 1,S.drop 1)
  ⟨?_,(aN ..).symm,fun e=>?_,⟨Eqf.rfl _,?_⟩,by rw[←aw (S.take 1),aN];exact ho,Upd.refl _ _⟩ ?_
 ·simp only[aL];omega
 ·have:=congrArg List.length e
  simp only[aL,aQ]at this;exact ax.1 (by simp only[aW];omega)
 ·match S with
  | []=>exact Srt.nil
  |x::S=>exact Srt.one x
 rintro I ⟨S1,R1,T⟩ t C ⟨J,U,j,d,u,hu⟩ hI;(try simp only at J U j d u)
 subst J U;simp only[af]at f;have hR1:=d.eqf.len;refine ak (fun D=>?_) fun Y=>?_
 ·simp only[af]at D
  have hS1:S1≠[]:=fun e=>by
   have:=j e;subst e;subst this;simp only[aQ]at D;omega
  have hS1l:0<S1.length:=List.length_pos_iff.2 hS1;match T with
  | []=>simp only[aQ]at D;omega
  |x::T=>
   have V:A.length+max 1 S1.length=A.length+S1.length:=by omega
   rw[V];refine LoopP.ghost (fun(g:List (Pr)×List (Pr)) (t:Int) h2=>t=((A.length+g.1.length:Nat):Int)∧R1=g.1++g.2∧(∀y∈g.2,lt x y=true)∧OwnS fw 2 201 M h2 s (A++(g.1++(x::(g.2++(T++B)))))∧Upd M h h2) (fun g=>g.1.length) (R1,[])
    ⟨by(try simp only);omega,by simp,fun y o=>(by cases o),by simpa using u,hu⟩ ?_
   rintro I2 ⟨L,G⟩ t2 h2 ⟨J,U,hG,n,F⟩ hI2;(try simp only at J U hG n)
   subst J U;simp only[af]at hR1;simp only[av]at f;refine Join.intro (fun t h3=>Upd M h h3∧OwnS fw 2 201 M h3 s (A++(L++(x::(G++(T++B)))))∧(t=true→∃L' y,L=L'++ [y]∧lt x y=true)∧(t=false→∀y∈L,lt x y=false)) (fun Rj P=>?_) ?_
   ·refine ak (fun Z=>?_) fun hle=>?_
    ·rcases CD L with rfl|⟨L',y,rfl⟩
     ·simp only[aQ]at Z;omega
     have q:(L'++ [y]).length=L'.length+1:=by simp
     have O:ac .i64 (((A.length+(L'++ [y]).length:Nat):Int)-1)=((A.length+L'.length:Nat):Int):=by rw[q,dL (by omega)];omega
     rw[O];have N:A++((L'++ [y])++(x::(G++(T++B))))=(A++L')++y::(x::(G++(T++B))):=by simp
     have f2:A++((L'++ [y])++(x::(G++(T++B))))=(A++(L'++ [y]))++x::(G++(T++B)):=by simp
     have o3:=n;have H:=n;rw[N]at o3;rw[f2]at H;obtain⟨a,c,o⟩:=fF o3 (i:=A.length+L'.length) (by first|omega|(simp;done)|(simp;omega))
     obtain⟨a',m,hx⟩:=fF H (i:=A.length+(L'++ [y]).length) (by first|omega|(simp;done)|(simp;omega))
     rw[c]at m;cases m;refine⟨⟨by omega,by omega⟩,a,c,x.1,hx 0 _ rfl,x.2,hx 1 _ rfl,⟨by omega,by omega⟩,a,c,y.1,o 0 _ rfl,y.2,o 1 _ rfl,?_⟩
     refine hc.call x y (hc.step F hi) fun h5 e X he=>?_
     rw[he];have ho5:=n.upd X fun _ _ h=>h
     refine P _ _ ⟨F.tr X.wide,ho5,fun h=>⟨L',y,rfl,h⟩,fun h z p=>?_⟩
     have hs:=d.srt.left;rcases be.1 p with p|p
     ·exact w.ntr x y z h (hs.cross z p y (aq.2 rfl))
     ·rw[aq.1 p];exact h
    ·have hL:L= []:=ax.1 (by omega)
     exact P _ _ ⟨F,n,fun h=>(by cases h),fun _ y o=>(by rw[hL]at o;cases o)⟩
   ·rintro t3 h3 ⟨Q,v,ht,hf⟩
    cases t3 with
    |true=>
     obtain⟨L',y,rfl,hxy⟩:=ht rfl;have q:(L'++ [y]).length=L'.length+1:=by simp
     refine aV.2 ?_;have O:ac .i64 (((A.length+(L'++ [y]).length:Nat):Int)-1)=((A.length+L'.length:Nat):Int):=by rw[q,dL (by omega)];omega
     rw[O];have N:A++((L'++ [y])++(x::(G++(T++B))))=(A++L')++y::(x::(G++(T++B))):=by simp
     have f2:(A++L')++y::(x::(G++(T++B)))=(A++(L'++ [y]))++x::(G++(T++B)):=by simp
     have f3:(A++(L'++ [y]))++y::(G++(T++B))=(A++L')++y::(y::(G++(T++B))):=by simp
     have f4:(A++L')++x::(y::(G++(T++B)))=A++(L'++(x::((y::G)++(T++B)))):=by simp
     rw[N]at v;have H:=v;rw[f2]at H;obtain⟨a,c,o⟩:=fF v (i:=A.length+L'.length) (by first|omega|(simp;done)|(simp;omega))
     obtain⟨a',m,hx⟩:=fF H (i:=A.length+(L'++ [y]).length) (by first|omega|(simp;done)|(simp;omega))
     rw[c]at m;cases m;refine⟨⟨by omega,by omega⟩,a,c,y.1,o 0 _ rfl,y.2,o 1 _ rfl,⟨by omega,by omega⟩,a,c,x.1,hx 0 _ rfl,x.2,hx 1 _ rfl,⟨by omega,by omega⟩,a,c,?_⟩
     refine lY H y c (by first|omega|(simp;done)|(simp;omega)) fun h5 o5 X=>⟨⟨by omega,by omega⟩,a,c,?_⟩
     rw[f3]at o5;refine lY o5 x c (by first|omega|(simp;done)|(simp;omega)) fun h6 o6 k6=>?_
     rw[f4]at o6;refine hI2 (L',y::G) _ _ ⟨rfl,by simp,fun z p=>?_,o6,(Q.trans X fun b W=>.inl W).trans k6 fun b W=>.inl W⟩ (by simp only[q];omega)
     rcases ar.1 p with rfl|p
     ·exact hxy
     ·exact hG z p
    |false=>
     refine ay.2 ?_;have O:ac .i64 (((A.length+S1.length:Nat):Int)+1)=((A.length+max 1 (S1.length+1):Nat):Int):=by rw[dL (by omega)];omega
     rw[O];refine hI (S1++ [x],L++x::G,T) _ _ ⟨by simp,by simp,fun e=>(by simp at e),OV w d (hf rfl) hG,?_,Q⟩ (by simp)
     have N:A++((L++x::G)++(T++B))=A++(L++(x::(G++(T++B)))):=by simp
     rw[N];exact v
 ·simp only[af]at Y
  have hT:T= []:=by
   rcases cU S1.length with h0|h0
   ·exact j (ax.1 h0)
   ·exact ax.1 (by omega)
  subst hT;rw[bZ]at u;rw[bi]at hk;exact hk C R1 u d hu
theorem B5{lt:Pr→Pr→Bool}(w:WO lt){M:Nat→Prop}{Iv:ae→Prop}{cmp:Value}(hc:Cmp lt fw M Iv cmp){s:SliceV}(hn:s.len≤1000000000):∀(n:Nat) {h:ae} {A U V B:List (Pr)},U.length+V.length≤n→OwnS fw 2 201 M h s (A++(U++(V++B)))→Iv h→0<U.length→0<V.length→Srt lt U→Srt lt V→∀{a m b:Nat},a=A.length→m=A.length+U.length→b=A.length+U.length+V.length→∀{K:Unit→ae→Prop},
  (∀W R,OwnS fw 2 201 M W s (A++(R++B))→St lt (U++V) R→Upd M h W→K () W)→eJ 240 [.slice s.a s.len s.cap,.int .i64 a,.int .i64 m,.int .i64 b,cmp] K h:=by
 intro n;induction n with
 |zero=>intro h A U V B hl _ _ hU;omega
 |succ n ih=>
  intro h A U V B hl ho hi hU hV sU sV a m b ha hm N K hk;refine eM (jw s a m b cmp) oH Tryz.func240 Tryz.call240 ?_;dsimp only[jw,nU,pN,FF,Oj,cg,ic,ji,sM,CS,fG,VP,iR,HL,vz,Th];have z:=ho.len;simp only[af]at z;have e1:ac .i64 ((m:Int)-(a:Int))=(U.length:Int):=by rw[dL (by omega)];omega
  have e2:ac .i64 ((b:Int)-(m:Int))=(V.length:Int):=by rw[dL (by omega)];omega
  rw[e1,e2];refine CondP.intro (fun F=>?_) fun hmore=>?_
  ·have F:U.length=1:=by have:=eq_of_beq F;omega
   match U,F with
   | [u],_=>
   simp only[aI]at z hm N;refine LoopP.ghost (fun(g:Nat×Nat) (t:Int×Int) W=>t.1=(g.1:Int)∧t.2=(g.2:Int)∧m≤g.1∧g.1≤g.2∧g.2≤b∧(∀q x,V[q]? =some x→m+q<g.1→lt x u=true)∧(∀q x,V[q]? =some x→g.2≤m+q→lt x u=false)∧OwnS fw 2 201 M W s (A++([u]++(V++B)))∧Upd M h W) (fun g=>g.2-g.1) (m,b)
    ⟨rfl,rfl,ai _,by(try simp only);omega,ai _,fun q x D h=>(by(try simp only at h);omega),fun q x D h=>(by have:=(bv.1 D).1;(try simp only at h);omega),ho,Upd.refl _ _⟩ ?_
   rintro I ⟨i,j⟩ ⟨ti,tj⟩ W ⟨e1,e2,hmi,H,hjb,J,L,G,hu⟩ hI;(try simp only at e1 e2 hmi H hjb J L)
   subst e1 e2;refine ak (fun O=>?_) fun hge=>?_
   ·have O:i<j:=by have:(i:Int)<(j:Int):=O;omega
    refine⟨by decide,?_⟩;simp only[Bd];rw[uw (by omega)];have hk1:(i+j)/2-m<V.length:=by omega
    have hk0:(i+j)/2=A.length+1+((i+j)/2-m):=by omega
    obtain⟨T,f,hx⟩:=qt G (i:=(i+j)/2) (x:=V[(i+j)/2-m]) (LL (U:= [u]) (k:=(i+j)/2-m) (by simp only[aI];omega) (ag hk1));obtain⟨a2,C,hy⟩:=fF (P:=A) (x:=u) (Q:=V++B) G ha;rw[f]at C;cases C;have hVk:V[(i+j)/2-m]? =some V[(i+j)/2-m]:=ag hk1;generalize V[(i+j)/2-m]=x at hx hVk;refine⟨⟨by omega,by omega⟩,T,f,x.1,hx 0 _ rfl,x.2,hx 1 _ rfl,⟨by omega,by omega⟩,T,f,u.1,hy 0 _ rfl,u.2,hy 1 _ rfl,?_⟩
    refine hc.call x u (hc.step hu hi) fun X e k5 he=>?_
    rw[he];have Y:=G.upd k5 fun _ _ h=>h
    have hu5:=hu.tr k5.wide;cases hxu:lt x u with
    |true=>
     refine aV.2 ?_;have ew:ac .i64 ((((i+j)/2:Nat):Int)+1)=(((i+j)/2+1:Nat):Int):=by rw[dL (by omega)];omega
     rw[ew];refine hI ((i+j)/2+1,j) _ _ ⟨rfl,rfl,by(try simp only);omega,by(try simp only);omega,hjb,fun q y D hqi=>?_,L,Y,hu5⟩ (by(try simp only);omega)
     have hle:=jb w sV (i:=q) (j:=(i+j)/2-m) (by(try simp only at hqi);omega) D hVk;cases hyu:lt y u with
     |true=>rfl
     |false=>rw[w.ntr _ _ _ hle hyu]at hxu;cases hxu
    |false=>
     refine ay.2 ?_;refine hI (i,(i+j)/2) _ _ ⟨rfl,rfl,hmi,by(try simp only);omega,by(try simp only);omega,J,fun q y D hqi=>?_,Y,hu5⟩ (by(try simp only);omega)
     have hle:=jb w sV (i:=(i+j)/2-m) (j:=q) (by(try simp only at hqi);omega) hVk D;exact w.ntr _ _ _ hle hxu
   ·have H:i=j:=by have:¬(i:Int)<(j:Int):=hge;omega
    subst H;obtain⟨V1,V2,rfl,hV1⟩:∃V1 V2,V=V1++V2∧V1.length=i-m:=⟨V.take (i-m),V.drop (i-m),(aN ..).symm,by rw[aL];omega⟩
    simp only[af]at z N;have lo1:∀x∈V1,lt x u=true:=fun x hx=>by
     obtain⟨q,D,e⟩:=ct hx;exact J q x (by rw[bw D,ag D,e]) (by omega)
    have hi1:∀x∈V2,lt x u=false:=fun x hx=>by
     obtain⟨q,D,e⟩:=ct hx;exact L (V1.length+q) x (by rw[aH (by omega),cy,ag D,e]) (by omega)
    have hst:=B7 w sV lo1 hi1;have f0:A++([u]++((V1++V2)++B))=A++([]++(u::(V1++(V2++B)))):=by simp
    rw[f0]at G;have ew:ac .i64 ((i:Int)-1)=((A.length+V1.length:Nat):Int):=by rw[dL (by omega)];omega
    rw[ew];refine LoopP.ghost (fun(g:List (Pr)×List (Pr)) (t:Int) h2=>t=((A.length+g.1.length:Nat):Int)∧V1=g.1++g.2∧OwnS fw 2 201 M h2 s (A++(g.1++(u::(g.2++(V2++B)))))∧Upd M h h2) (fun g=>g.2.length) ([],V1)
     ⟨by simp[ha],rfl,G,hu⟩ ?_
    rintro I2 ⟨G1,E⟩ t2 h2 ⟨e1,e2,o,S⟩ hI2;(try simp only at e1 e2 o)
    subst e1 e2;simp only[af]at z N ew⊢;refine ak (fun O=>?_) fun hge=>?_
    ·match E with
     | []=>simp only[aQ]at O;omega
     |g::E=>
      simp only[av]at z;have ew1:ac .i64 (((A.length+G1.length:Nat):Int)+1)=((A.length+G1.length+1:Nat):Int):=by rw[dL (by omega)];omega
      rw[ew1];have f1:A++(G1++(u::((g::E)++(V2++B))))=(A++G1)++u::(g::(E++(V2++B))):=by simp
      have f2:(A++G1)++u::(g::(E++(V2++B)))=(A++(G1++ [u]))++g::(E++(V2++B)):=by simp
      have f3:(A++G1)++g::(g::(E++(V2++B)))=(A++(G1++ [g]))++g::(E++(V2++B)):=by simp
      have f4:(A++(G1++ [g]))++u::(E++(V2++B))=A++((G1++ [g])++(u::(E++(V2++B)))):=by simp
      rw[f1]at o;have o3:=o;rw[f2]at o3;obtain⟨T,f,hy⟩:=fF o3 (i:=A.length+G1.length+1) (by first|omega|(simp;done)|(simp;omega))
      obtain⟨a2,C,hx⟩:=fF o (i:=A.length+G1.length) (by first|omega|(simp;done)|(simp;omega))
      rw[f]at C;cases C;refine⟨⟨by omega,by omega⟩,T,f,g.1,hy 0 _ rfl,g.2,hy 1 _ rfl,⟨by omega,by omega⟩,T,f,u.1,hx 0 _ rfl,u.2,hx 1 _ rfl,⟨by omega,by omega⟩,T,f,?_⟩
      refine lY o g f (by first|omega|(simp;done)|(simp;omega)) fun X o5 k5=>⟨⟨by omega,by omega⟩,T,f,?_⟩
      rw[f3]at o5;refine lY o5 u f (by first|omega|(simp;done)|(simp;omega)) fun h6 o6 k6=>?_
      rw[f4]at o6;exact hI2 (G1++ [g],E) _ _ ⟨by simp;omega,by simp,o6,(S.trans k5 fun b N=>.inl N).trans k6 fun b N=>.inl N⟩ (by simp)
    ·have hG:E= []:=ax.1 (by omega)
     subst hG;simp only[bi,bZ]at o hst hk;refine hk h2 (G1++u::V2) ?_ hst S;have f1:A++((G1++u::V2)++B)=A++(G1++(u::(V2++B))):=by simp
     rw[f1];exact o
  refine CondP.intro (fun F=>?_) fun hmore2=>?_
  ·have F:V.length=1:=by have:=eq_of_beq F;omega
   match V,F with
   | [v],_=>
   simp only[aI]at z N;refine LoopP.ghost (fun(g:Nat×Nat) (t:Int×Int) W=>t.1=(g.1:Int)∧t.2=(g.2:Int)∧a≤g.1∧g.1≤g.2∧g.2≤m∧(∀q x,U[q]? =some x→a+q<g.1→lt v x=false)∧(∀q x,U[q]? =some x→g.2≤a+q→lt v x=true)∧OwnS fw 2 201 M W s (A++(U++([v]++B)))∧Upd M h W) (fun g=>g.2-g.1) (a,m)
    ⟨rfl,rfl,ai _,by(try simp only);omega,ai _,fun q x D h=>(by(try simp only at h);omega),fun q x D h=>(by have:=(bv.1 D).1;(try simp only at h);omega),ho,Upd.refl _ _⟩ ?_
   rintro I ⟨i,j⟩ ⟨ti,tj⟩ W ⟨e1,e2,hmi,H,hjb,J,L,G,hu⟩ hI;(try simp only at e1 e2 hmi H hjb J L)
   subst e1 e2;refine ak (fun O=>?_) fun hge=>?_
   ·have O:i<j:=by have:(i:Int)<(j:Int):=O;omega
    refine⟨by decide,?_⟩;simp only[Bd];rw[uw (by omega)];have hk1:(i+j)/2-a<U.length:=by omega
    obtain⟨T,f,hx⟩:=qt G (i:=(i+j)/2) (x:=U[(i+j)/2-a]) (F2 (k:=(i+j)/2-a) (by omega) (ag hk1));have f1:A++(U++([v]++B))=(A++U)++v::B:=by simp
    have o3:=G;rw[f1]at o3;obtain⟨a2,C,hy⟩:=fF o3 (i:=m) (by first|omega|(simp;done)|(simp;omega))
    rw[f]at C;cases C;have hVk:U[(i+j)/2-a]? =some U[(i+j)/2-a]:=ag hk1;generalize U[(i+j)/2-a]=x at hx hVk;refine⟨⟨by omega,by omega⟩,T,f,v.1,hy 0 _ rfl,v.2,hy 1 _ rfl,⟨by omega,by omega⟩,T,f,x.1,hx 0 _ rfl,x.2,hx 1 _ rfl,?_⟩
    refine hc.call v x (hc.step hu hi) fun X e k5 he=>?_
    rw[he];have Y:=G.upd k5 fun _ _ h=>h
    have hu5:=hu.tr k5.wide;cases hxu:lt v x with
    |false=>
     refine aV.2 ?_;have ew:ac .i64 ((((i+j)/2:Nat):Int)+1)=(((i+j)/2+1:Nat):Int):=by rw[dL (by omega)];omega
     rw[ew];refine hI ((i+j)/2+1,j) _ _ ⟨rfl,rfl,by(try simp only);omega,by(try simp only);omega,hjb,fun q y D hqi=>?_,L,Y,hu5⟩ (by(try simp only);omega)
     exact w.ntr _ _ _ hxu (jb w sU (i:=q) (j:=(i+j)/2-a) (by(try simp only at hqi);omega) D hVk)
    |true=>
     refine ay.2 ?_;refine hI (i,(i+j)/2) _ _ ⟨rfl,rfl,hmi,by(try simp only);omega,by(try simp only);omega,J,fun q y D hqi=>?_,Y,hu5⟩ (by(try simp only);omega)
     have hle:=jb w sU (i:=(i+j)/2-a) (j:=q) (by(try simp only at hqi);omega) hVk D;cases hvy:lt v y with
     |true=>rfl
     |false=>rw[w.ntr _ _ _ hvy hle]at hxu;cases hxu
   ·have H:i=j:=by have:¬(i:Int)<(j:Int):=hge;omega
    subst H;obtain⟨U1,U2,rfl,hU1⟩:∃U1 U2,U=U1++U2∧U1.length=i-a:=⟨U.take (i-a),U.drop (i-a),(aN ..).symm,by rw[aL];omega⟩
    simp only[af]at z N hm;have lo1:∀x∈U1,lt v x=false:=fun x hx=>by
     obtain⟨q,D,e⟩:=ct hx;exact J q x (by rw[bw D,ag D,e]) (by omega)
    have hi1:∀x∈U2,lt v x=true:=fun x hx=>by
     obtain⟨q,D,e⟩:=ct hx;exact L (U1.length+q) x (by rw[aH (by omega),cy,ag D,e]) (by omega)
    have hst:=Ez w sU lo1 hi1;have f0:A++((U1++U2)++([v]++B))=A++(U1++(U2++(v::([]++B)))):=by simp
    rw[f0]at G;refine LoopP.ghost (fun(g:List (Pr)×List (Pr)) (t:Int) h2=>t=((A.length+U1.length+g.1.length:Nat):Int)∧U2=g.1++g.2∧OwnS fw 2 201 M h2 s (A++(U1++(g.1++(v::(g.2++B)))))∧Upd M h h2) (fun g=>g.1.length) (U2,[])
     ⟨by(try simp only);omega,by simp,G,hu⟩ ?_
    rintro I2 ⟨G1,E⟩ t2 h2 ⟨e1,e2,o,S⟩ hI2;(try simp only at e1 e2 o)
    subst e1 e2;simp only[af]at z N hm⊢;refine ak (fun hgt=>?_) fun hle=>?_
    ·rcases CD G1 with rfl|⟨G1',g,rfl⟩
     ·simp only[aQ]at hgt;omega
     simp only[af,aI]at z N hm hgt⊢;have ew1:ac .i64 (((A.length+U1.length+(G1'.length+1):Nat):Int)-1)=((A.length+U1.length+G1'.length:Nat):Int):=by rw[dL (by omega)];omega
     rw[ew1];have f1:A++(U1++((G1'++ [g])++(v::(E++B))))=(A++(U1++(G1'++ [g])))++v::(E++B):=by simp
     have f2:(A++(U1++(G1'++ [g])))++v::(E++B)=(A++(U1++G1'))++g::(v::(E++B)):=by simp
     have f3:(A++(U1++(G1'++ [g])))++g::(E++B)=(A++(U1++G1'))++g::(g::(E++B)):=by simp
     have f4:(A++(U1++G1'))++v::(g::(E++B))=A++(U1++(G1'++(v::((g::E)++B)))):=by simp
     rw[f1]at o;have o3:=o;rw[f2]at o3;obtain⟨T,f,hy⟩:=fF o3 (i:=A.length+U1.length+G1'.length) (by first|omega|(simp;done)|(simp;omega))
     obtain⟨a2,C,hx⟩:=fF o (i:=A.length+U1.length+(G1'.length+1)) (by first|omega|(simp;done)|(simp;omega))
     rw[f]at C;cases C;refine⟨⟨by omega,by omega⟩,T,f,g.1,hy 0 _ rfl,g.2,hy 1 _ rfl,⟨by omega,by omega⟩,T,f,v.1,hx 0 _ rfl,v.2,hx 1 _ rfl,⟨by omega,by omega⟩,T,f,?_⟩
     refine lY o g f (by first|omega|(simp;done)|(simp;omega)) fun X o5 k5=>⟨⟨by omega,by omega⟩,T,f,?_⟩
     rw[f3]at o5;refine lY o5 v f (by first|omega|(simp;done)|(simp;omega)) fun h6 o6 k6=>?_
     rw[f4]at o6;exact hI2 (G1',g::E) _ _ ⟨rfl,by simp,o6,(S.trans k5 fun b N=>.inl N).trans k6 fun b N=>.inl N⟩ (by simp)
    ·have hG:G1= []:=ax.1 (by omega)
     subst hG;simp only[bZ]at o hst hk;refine hk h2 (U1++v::E) ?_ hst S;have f1:A++((U1++v::E)++B)=A++(U1++(v::(E++B))):=by simp
     rw[f1];exact o
  have hU2:2≤U.length:=by
   have:(U.length:Int)≠1:=by simpa using hmore
   omega
  have hV2:2≤V.length:=by
   have:(V.length:Int)≠1:=by simpa using hmore2
   omega
  refine⟨by decide,?_⟩;simp only[Bd];rw[uw (i:=a) (j:=b) (by omega)];obtain⟨d,hmid⟩:∃d,(a+b)/2=d:=⟨_,rfl⟩;rw[hmid];have em:ac .i64 ((d:Int)+(m:Int))=((d+m:Nat):Int):=by rw[dL (by omega)];omega
  rw[em];have ep:ac .i64 (((d+m:Nat):Int)-1)=((d+m-1:Nat):Int):=by rw[dL (by omega)];omega
  rw[ep];refine Join.intro (fun t W=>W=h∧∃s0 r0:Nat,t=((s0:Int),(r0:Int))∧a≤s0∧s0≤r0∧r0≤m∧r0≤d∧d+m≤b+s0∧(r0=d∨r0=m)∧(s0=a∨s0+b=d+m)) (fun Rj hRj=>?_) ?_
  ·refine ak (fun hgt=>?_) fun hle=>?_
   ·have es:ac .i64 (((d+m:Nat):Int)-(b:Int))=((d+m-b:Nat):Int):=by rw[dL (by omega)];omega
    rw[es];exact hRj _ _ ⟨rfl,_,_,rfl,by omega,by omega,by omega,by omega,by omega,by omega,by omega⟩
   ·exact hRj _ _ ⟨rfl,_,_,rfl,by omega,by omega,by omega,by omega,by omega,by omega,by omega⟩
  rintro t W ⟨rfl,s0,r0,rfl,hs0,hsr,hrm,hrd,hsb,hr0,hs00⟩;refine LoopP.ghost (fun(g:Nat×Nat) (t:Int×Int) h2=>t.1=(g.1:Int)∧t.2=(g.2:Int)∧s0≤g.1∧g.1≤g.2∧g.2≤r0∧(∀c x y,s0≤c→c<g.1→U[c-a]? =some x→V[d-1-c]? =some y→lt y x=false)∧(∀c x y,g.2≤c→c<r0→U[c-a]? =some x→V[d-1-c]? =some y→lt y x=true)∧OwnS fw 2 201 M h2 s (A++(U++(V++B)))∧Upd M W h2) (fun g=>g.2-g.1) (s0,r0)
   ⟨rfl,rfl,ai _,hsr,ai _,fun c x y h1 h2=>(by(try simp only at h2);omega),fun c x y h1 h2=>(by(try simp only at h1);omega),ho,Upd.refl _ _⟩ ?_
  rintro I ⟨i,j⟩ ⟨ti,tj⟩ h2 ⟨e1,e2,hsi,H,hjr,J,L,o,S⟩ hI;(try simp only at e1 e2 hsi H hjr J L)
  subst e1 e2;refine ak (fun O=>?_) fun hge=>?_
  ·have O:i<j:=by have:(i:Int)<(j:Int):=O;omega
   refine⟨by decide,?_⟩;rw[uw (i:=i) (j:=j) (by omega)];obtain⟨c,hcc⟩:∃c,(i+j)/2=c:=⟨_,rfl⟩;rw[hcc];have hci:i≤c:=by omega
   have hcj:c<j:=by omega
   have eq:ac .i64 (((d+m-1:Nat):Int)-(c:Int))=((d+m-1-c:Nat):Int):=by rw[dL (by omega)];omega
   rw[eq];have hk1:c-a<U.length:=by omega
   have hk2:d-1-c<V.length:=by omega
   obtain⟨T,f,hx⟩:=qt o (i:=c) (x:=U[c-a]) (F2 (k:=c-a) (by omega) (ag hk1));obtain⟨a2,C,hy⟩:=qt o (i:=d+m-1-c) (x:=V[d-1-c]) (LL (k:=d-1-c) (by omega) (ag hk2));rw[f]at C;cases C;have hUc:U[c-a]? =some U[c-a]:=ag hk1;have hVc:V[d-1-c]? =some V[d-1-c]:=ag hk2;generalize U[c-a]=x at hx hUc
   generalize V[d-1-c]=y at hy hVc;refine⟨⟨by omega,by omega⟩,T,f,y.1,hy 0 _ rfl,y.2,hy 1 _ rfl,⟨by omega,by omega⟩,T,f,x.1,hx 0 _ rfl,x.2,hx 1 _ rfl,?_⟩
   refine hc.call y x (hc.step S hi) fun X e k5 he=>?_
   rw[he];have Y:=o.upd k5 fun _ _ h=>h
   have hu5:=S.tr k5.wide;cases hyx:lt y x with
   |false=>
    refine aV.2 ?_;have ew:ac .i64 ((c:Int)+1)=((c+1:Nat):Int):=by rw[dL (by omega)];omega
    rw[ew];refine hI (c+1,j) _ _ ⟨rfl,rfl,by(try simp only);omega,by(try simp only);omega,hjr,fun c' x' y' h1 h2 hx' hy'=>?_,L,Y,hu5⟩ (by(try simp only);omega)
    (try simp only at h2)
    have q1:=jb w sU (i:=c'-a) (j:=c-a) (by omega) hx' hUc;have q2:=jb w sV (i:=d-1-c) (j:=d-1-c') (by omega) hVc hy';exact w.ntr _ _ _ (w.ntr _ _ _ q2 hyx) q1
   |true=>
    refine ay.2 ?_;refine hI (i,c) _ _ ⟨rfl,rfl,hsi,hci,by(try simp only);omega,J,fun c' x' y' h1 h2 hx' hy'=>?_,Y,hu5⟩ (by(try simp only);omega)
    (try simp only at h1)
    have q1:=jb w sU (i:=c-a) (j:=c'-a) (by omega) hUc hx';have q2:=jb w sV (i:=d-1-c') (j:=d-1-c) (by omega) hy' hVc;cases hyx':lt y' x' with
    |true=>rfl
    |false=>rw[w.ntr _ _ _ (w.ntr _ _ _ q2 hyx') q1]at hyx;cases hyx
  have H:i=j:=by have:¬(i:Int)<(j:Int):=hge;omega
  subst H;have en:ac .i64 (((d+m:Nat):Int)-(i:Int))=((d+m-i:Nat):Int):=by rw[dL (by omega)];omega
  (try simp only)
  rw[en];obtain⟨U1,U2,eU,hU1⟩:∃U1 U2,U=U1++U2∧U1.length=i-a:=⟨U.take (i-a),U.drop (i-a),(aN ..).symm,by rw[aL];omega⟩
  obtain⟨V1,V2,eV,hV1⟩:∃V1 V2,V=V1++V2∧V1.length=d-i:=⟨V.take (d-i),V.drop (d-i),(aN ..).symm,by rw[aL];omega⟩
  have c1:∀v∈V1,∀u∈U2,lt v u=true:=fun v hv u hu=>by
   obtain⟨q,D,e⟩:=ct hv;obtain⟨p,hp,e'⟩:=ct hu;have hlU:U.length=U1.length+U2.length:=by rw[eU,af]
   have n1:0<U2.length:=by omega
   have n2:d-1-i<V1.length:=by omega
   have gx:U[i-a]? =some (U2[0]'n1):=by rw[eU,aH (by omega),←hU1,di,ag (by omega)]
   have gy:V[d-1-i]? =some (V1[d-1-i]'n2):=by rw[eV,bw (by omega),ag (by omega)]
   have hQ:=L i _ _ (ai _) (by omega) gx gy;have q1:=jb w sU (i:=i-a) (j:=i-a+p) (by omega) gx (by rw[eU,aH (by omega),←hU1,cy,ag hp,e']);have q2:=jb w sV (i:=q) (j:=d-1-i) (by omega) (by rw[eV,bw D,ag D,e]) gy;cases hvu:lt v u with
   |true=>rfl
   |false=>rw[w.ntr _ _ _ (w.ntr _ _ _ q2 hvu) q1]at hQ;cases hQ
  have c2:∀u∈U1,∀v∈V2,lt v u=false:=fun u hu v hv=>by
   obtain⟨p,hp,e'⟩:=ct hu;obtain⟨q,D,e⟩:=ct hv;have hlV:V.length=V1.length+V2.length:=by rw[eV,af]
   have n1:i-1-a<U1.length:=by omega
   have n2:0<V2.length:=by omega
   have gx:U[i-1-a]? =some (U1[i-1-a]'n1):=by rw[eU,bw (by omega),ag (by omega)]
   have gy:V[d-1-(i-1)]? =some (V2[0]'n2):=by rw[eV,aH (by omega),show d-1-(i-1)-V1.length=0 by omega,ag (by omega)]
   have hQ:=J (i-1) _ _ (by omega) (by omega) gx gy;have q1:=jb w sU (i:=p) (j:=i-1-a) (by omega) (by rw[eU,bw hp,ag hp,e']) gx;have q2:=jb w sV (i:=d-i) (j:=d-i+q) (by omega) (by rw[eV,aH (by omega),hV1,di,ag (by omega)]) (by rw[eV,aH (by omega),hV1,cy,ag D,e])
   have gy2:V[d-i]? =some (V2[0]'n2):=by rw[eV,aH (by omega),hV1,di,ag (by omega)]
   exact w.ntr _ _ _ (w.ntr _ _ _ q2 hQ) q1
  subst eU eV;simp only[af]at z hU hV hl hm N hU2 hV2;have sA1:=sU.left;have sA2:=sU.right;have sB1:=sV.left;have sB2:=sV.right;refine Join.intro (fun _ h3=>OwnS fw 2 201 M h3 s (A++(U1++(V1++(U2++(V2++B)))))∧Upd M W h3) (fun Rj hRj=>?_) ?_
  ·have f1:A++((U1++U2)++((V1++V2)++B))=(A++U1)++(U2++(V1++(V2++B))):=by simp
   have f2:(A++U1)++(V1++(U2++(V2++B)))=A++(U1++(V1++(U2++(V2++B)))):=by simp
   refine Join.intro (fun t h3=>h3=h2∧(t=true↔0<U2.length∧0<V1.length)) (fun Rk Z=>?_) ?_
   ·refine ak (fun h=>Z _ _ ⟨rfl,?_⟩) fun h=>Z _ _ ⟨rfl,⟨fun h=>(by cases h),fun h=>(by omega)⟩⟩
    rw[decide_eq_true_iff];constructor
    ·intro h;constructor<;>omega
    ·rintro⟨h1,h2⟩;omega
   ·rintro t h3 ⟨rfl,ht⟩
    cases t with
    |true=>
     obtain⟨p1,p2⟩:=ht.1 rfl;rw[f1]at o;refine aV.2 (Pa o hn p1 p2 (by rw[af];omega) (by rw[af];omega) (by rw[af];omega) fun h4 o4 k4=>hRj _ _ ⟨?_,S.trans k4 fun b N=>.inl N⟩)
     rw[f2]at o4;exact o4
    |false=>
     have hz:U2= []∨V1= []:=by
      rcases cU U2.length with h|h
      ·exact .inl (ax.1 h)
      ·rcases cU V1.length with h3|h3
       ·exact .inr (ax.1 h3)
       ·have:=ht.2 ⟨h,h3⟩;cases this
     refine ay.2 (hRj _ _ ⟨?_,S⟩);rw[f1]at o;rw[←f2];rcases hz with rfl|rfl
     ·exact o
     ·exact o
  rintro _ h3 ⟨o3,k3⟩;refine Join.intro (fun _ h4=>∃R1,OwnS fw 2 201 M h4 s (A++(R1++(U2++(V2++B))))∧St lt (U1++V1) R1∧Upd M W h4) (fun Rj hRj=>?_) ?_
  ·refine Join.intro (fun t h4=>h4=h3∧(t=true↔0<U1.length∧0<V1.length)) (fun Rk Z=>?_) ?_
   ·refine ak (fun h=>Z _ _ ⟨rfl,?_⟩) fun h=>Z _ _ ⟨rfl,⟨fun h=>(by cases h),fun h=>(by omega)⟩⟩
    rw[decide_eq_true_iff];constructor
    ·intro h;constructor<;>omega
    ·rintro⟨h1,h2⟩;omega
   ·rintro t h4 ⟨rfl,ht⟩
    cases t with
    |true=>
     obtain⟨p1,p2⟩:=ht.1 rfl;refine aV.2 (ih (by omega) o3 (hc.step k3 hi) p1 p2 sA1 sB1 ha (by omega) (by omega) fun X R1 o5 s5 k5=>hRj _ _ ⟨R1,o5,s5,k3.trans k5 fun b N=>.inl N⟩)
    |false=>
     refine ay.2 (hRj _ _ ⟨U1++V1,by simpa using o3,⟨Eqf.rfl _,?_⟩,k3⟩)
     rcases cU U1.length with h|h
     ·rw[ax.1 h];exact sB1
     ·rcases cU V1.length with X|X
      ·rw[ax.1 X,bi];exact sA1
      ·have:=ht.2 ⟨h,X⟩;cases this
  rintro _ h4 ⟨R1,o4,s1,k4⟩;have hR1:=s1.eqf.len;rw[af]at hR1;have fin:∀{X:ae} {R2:List (Pr)},OwnS fw 2 201 M X s (A++(R1++(R2++B)))→St lt (U2++V2) R2→Upd M W X→K () X:=fun{X R2} o5 s2 k5=>by
   refine hk X (R1++R2) ?_ (JC w sU sV c1 c2 s1 s2) k5;rw[aw];exact o5
  refine Join.intro (fun t X=>X=h4∧(t=true↔0<U2.length∧0<V2.length)) (fun Rk Z=>?_) ?_
  ·refine ak (fun h=>Z _ _ ⟨rfl,?_⟩) fun h=>Z _ _ ⟨rfl,⟨fun h=>(by cases h),fun h=>(by omega)⟩⟩
   rw[decide_eq_true_iff];constructor
   ·intro h;constructor<;>omega
   ·rintro⟨h1,h2⟩;omega
  ·rintro t X ⟨rfl,ht⟩
   have f1:A++(R1++(U2++(V2++B)))=(A++R1)++(U2++(V2++B)):=by simp
   cases t with
   |true=>
    obtain⟨p1,p2⟩:=ht.1 rfl;rw[f1]at o4;refine aV.2 (ih (by omega) o4 (hc.step k4 hi) p1 p2 sA2 sB2 (by rw[af];omega) (by rw[af];omega) (by rw[af];omega) fun h6 R2 o6 s6 k6=>fin (R2:=R2) ?_ s6 (k4.trans k6 fun b N=>.inl N))
    rw[aw]at o6;exact o6
   |false=>
    refine ay.2 (fin (R2:=U2++V2) (by simpa using o4) ⟨Eqf.rfl _,?_⟩ k4);rcases cU U2.length with h|h
    ·rw[ax.1 h];exact sB2
    ·rcases cU V2.length with h6|h6
     ·rw[ax.1 h6,bi];exact sA2
     ·have:=ht.2 ⟨h,h6⟩;cases this
theorem OT{lt:Pr→Pr→Bool}(w:WO lt){M:Nat→Prop}{Iv:ae→Prop}{i:Value}(hc:Cmp lt fw M Iv i){h:ae}{s:SliceV}{xs:List (Pr)}(ho:OwnS fw 2 201 M h s xs)(hi:Iv h)(hn:xs.length≤100000000){K:Unit→ae→Prop}
  (hk:∀c R,OwnS fw 2 201 M c s R→St lt xs R→Upd M h c→K () c):eJ 161 [.slice s.a s.len s.cap,i] K h:=by
 refine eM (fS s i) .nil Tryz.func161 Tryz.call161 ?_;unfold fS;refine eM (j8 s (s.len:Int) i) pE Tryz.func195 Tryz.call195 ?_;unfold j8;have n:=ho.len;have j:s.len≤1000000000:=by omega
 refine LoopP.ghost (fun(g:List (Pr)×List (Pr)×List (Pr)) (t:Int×Int) c=>t.1=(g.2.1.length:Int)∧t.2=((g.2.1.length+20:Nat):Int)∧xs=g.1++g.2.2∧Eqf lt g.1 g.2.1∧Full lt 20 g.2.1∧OwnS fw 2 201 M c s (g.2.1++g.2.2)∧Upd M h c) (fun g=>g.2.2.length) ([],[],xs)
  ⟨rfl,rfl,rfl,Eqf.rfl _,Full.nil,ho,Upd.refl _ _⟩ ?_
 rintro I ⟨X,D,T⟩ ⟨ta,tb⟩ h1 ⟨m,U,J,e,o,V,k1⟩ hI;simp only at m U J e o V;subst m U J;have hXD:=e.len;simp only[af]at n hn;refine ak (fun hle=>?_) fun G=>?_
 ·obtain⟨S,T',rfl,hS⟩:∃S T',T=S++T'∧S.length=20:=⟨T.take 20,T.drop 20,(aN ..).symm,by rw[aL];omega⟩
  refine EO w hc V (hc.step k1 hi) j rfl (b:=D.length+20) (by omega) fun h2 R C u F=>?_
  have A:=u.eqf.len;simp only[af]at n hn;have L:ac .i64 (((D.length+20:Nat):Int)+20)=(((D++R).length+20:Nat):Int):=by rw[af,dL (by omega)];omega
  rw[L];refine hI (X++S,D++R,T') _ _ ⟨by simp only[af];omega,rfl,by simp,e.app u.eqf,o.app (by omega) u.srt,by rw[aw];exact C,k1.trans F fun b z=>.inl z⟩ (by simp only[af];omega)
 have Z:D++T=D++(T++ []):=by simp
 rw[Z]at V;refine EO w hc V (hc.step k1 hi) j rfl (b:=s.len) (by omega) fun h2 R C u F=>?_
 have A:=u.eqf.len;rw[bi]at C;have v:Eqf lt (X++T) (D++R):=e.app u.eqf;have H:Runs lt 20 (D++R):=o R (.last R (by omega) u.srt);have F:Upd M h h2:=k1.trans F fun b z=>.inl z
 generalize D++R=ys at C v H;generalize X++T=zs at v hk;have d:s.len=ys.length:=C.len;clear hI e o V Z G A;refine LoopP.ghost (fun(g:Nat×List (Pr)) (t:Int) c=>t=(g.1:Int)∧0<g.1∧g.1≤200000000∧Runs lt g.1 g.2∧Eqf lt zs g.2∧OwnS fw 2 201 M c s g.2∧Upd M h c) (fun g=>s.len-g.1) (20,ys)
  ⟨rfl,by simp,by simp,H,v,C,F⟩ ?_
 rintro I2 ⟨bs,ys⟩ t h3 ⟨m,hb0,hb1,hr,y,W,k3⟩ hI2;simp only at m hb0 hb1 hr y W;subst m;have d:s.len=ys.length:=W.len;refine ak (fun hlt=>?_) fun hge=>?_
 ·have hlt:bs<s.len:=by omega
  have e0:ac .i64 (2*(bs:Int))=((2*bs:Nat):Int):=by rw[dL (by omega)];omega
  rw[e0];refine LoopP.ghost (fun(g:List (Pr)×List (Pr)×List (Pr)) (t:Int×Int) c=>t.1=(g.2.1.length:Int)∧t.2=((g.2.1.length+2*bs:Nat):Int)∧ys=g.1++g.2.2∧Eqf lt g.1 g.2.1∧Full lt (2*bs) g.2.1∧Runs lt bs g.2.2∧OwnS fw 2 201 M c s (g.2.1++g.2.2)∧Upd M h c) (fun g=>g.2.2.length) ([],[],ys)
   ⟨rfl,by simp,rfl,Eqf.rfl _,Full.nil,hr,W,k3⟩ ?_
  rintro I3 ⟨Y,D,T⟩ ⟨ta,tb⟩ h4 ⟨m,U,J,e,o,f,O,N⟩ hI3;simp only at m U J e o f O;subst m U J;have hYD:=e.len;simp only[af]at d;have ea:ac .i64 ((D.length:Int)+(bs:Int))=((D.length+bs:Nat):Int):=by rw[dL (by omega)];omega
  simp only;rw[ea];refine ak (fun hle=>?_) fun G=>?_
  ·obtain⟨B1,T1,rfl,hB1,p,q⟩:=f.split (by omega)
   simp only[af]at d;obtain⟨B2,T2,rfl,hB2,sB2,hr2⟩:=q.split (by omega);simp only[af]at d;refine B5 w hc j (B1.length+B2.length) (ai _) O (hc.step N hi) (by omega) (by omega) p sB2 rfl (by omega) (by omega) fun Q R B x E=>?_
   have A:=x.eqf.len;rw[af]at A;have L:ac .i64 (((D.length+2*bs:Nat):Int)+((2*bs:Nat):Int))=(((D++R).length+2*bs:Nat):Int):=by rw[af,dL (by omega)];omega
   rw[L];refine hI3 (Y++(B1++B2),D++R,T2) _ _ ⟨by simp only[af];omega,rfl,by simp,e.app x.eqf,o.app (by omega) x.srt,hr2,by rw[aw];exact B,N.trans E fun b z=>.inl z⟩ (by simp only[af];omega)
  ·refine Join.intro (fun _ Q=>∃R,Eqf lt T R∧Runs lt (2*bs) R∧OwnS fw 2 201 M Q s (D++R)∧Upd M h Q) (fun Rj P=>?_) ?_
   ·refine ak (fun hmn=>?_) fun hmn=>?_
    ·obtain⟨B1,T1,rfl,hB1,p,q⟩:=f.split (by omega)
     simp only[af]at d;have Z:D++(B1++T1)=D++(B1++(T1++ [])):=by simp
     rw[Z]at O;refine B5 w hc j (B1.length+T1.length) (ai _) O (hc.step N hi) (by omega) (by omega) p (q.short (by omega)) rfl (by omega) (by omega) fun Q R B x E=>?_
     have A:=x.eqf.len;rw[af]at A;rw[bi]at B;exact P _ _ ⟨R,x.eqf,.last R (by omega) x.srt,B,N.trans E fun b z=>.inl z⟩
    ·exact P _ _ ⟨T,Eqf.rfl _,.last T (by omega) (f.short (by omega)),O,N⟩
   ·rintro _ Q ⟨R,q5,r5,B,E⟩
    have L:ac .i64 ((bs:Int)*2)=((2*bs:Nat):Int):=by rw[dL (by omega)];omega
    rw[L];exact hI2 (2*bs,D++R) _ _ ⟨rfl,by simp only;omega,by simp only;omega,o R r5,y.tr (e.app q5),B,E⟩ (by simp only;omega)
 ·exact hk h3 ys W ⟨y,hr.short (by omega)⟩ k3
end Go.Proofs
namespace Go.Proofs
open Go Go.Lift
def StP(N:Nat):Prop:=∀{lt:Pr→Pr→Bool},WO lt→∀{M:Nat→Prop} {Iv:ae→Prop} {cmp:Value},Cmp lt fw M Iv cmp→∀{h:ae} {s:SliceV} {xs:List Pr},OwnS fw 2 201 M h s xs→Iv h→xs.length≤N→∀{K:Unit→ae→Prop},
 (∀h' R,OwnS fw 2 201 M h' s R→St lt xs R→Upd M h h'→K () h')→eJ 161 [.slice s.a s.len s.cap,cmp] K h
def StH(N:Nat):Prop:=∀{z0:Hs} {lt:Pr→Pr→Bool},WO lt→∀{M:Nat→Prop} {Iv:ae→Prop} {cmp:Value},Cmp lt (qk z0) M Iv cmp→∀{h:ae} {s:SliceV} {xs:List Pr},OwnS (qk z0) 3 291 M h s xs→Iv h→xs.length≤N→∀{K:Unit→ae→Prop},
 (∀h' R,OwnS (qk z0) 3 291 M h' s R→St lt xs R→Upd M h h'→K () h')→eJ 229 [.slice s.a s.len s.cap,cmp] K h
theorem stP:StP 100000000:=fun w _ _ _ hc _ _ _ b hi d _ c=>OT w hc b hi d c
theorem stH:StH 100000000:=fun w _ _ _ hc _ _ _ b hi d _ c=>OU w hc b hi d c
end Go.Proofs
namespace Go.Proofs
open Go Go.Lift
def W8(a b:Pr):Bool:=decide (kl a.1 b.1)
theorem YA:WO W8:=by
 refine⟨fun a=>decide_eq_false (dS _),fun a b h=>decide_eq_false fun k=>dS _ (ii (of_decide_eq_true h) k),fun a b c h k=>decide_eq_false fun d=>?_⟩
 have h:=of_decide_eq_false h;have k:=of_decide_eq_false k;by_cases e:b.1=c.1
 ·rw[←e]at d;exact h d
 ·have f:=vF k e
  exact h (ii d f)
theorem Xr(x a:Pr):Ku W8 x a=decide (a.1=x.1):=by
 unfold Ku W8;by_cases e:a.1=x.1
 ·rw[decide_eq_true e,e,decide_eq_false (dS _)];rfl
 ·rw[decide_eq_false e]
  by_cases h:kl a.1 x.1
  ·rw[decide_eq_true h];rfl
  ·rw[decide_eq_false h,decide_eq_true (vF h e)];rfl
def jJ(l:List Pr)(k:ByteArray):Option Pr:=(l.filter fun q=>decide (q.1=k)).getLast?
theorem qj(q:Pr)(l:List Pr)(k:ByteArray):jJ (q::l) k=if q.1=k then some ((jJ l k).getD q)else jJ l k:=by
 unfold jJ;rw[List.filter_cons];by_cases h:q.1=k
 ·rw[if_pos (decide_eq_true h),if_pos h,List.getLast?_cons]
 ·rw[if_neg (by simpa using h),if_neg h]
theorem Kf{l:List Pr}{k:ByteArray}{p:Pr}(h:jJ l k=some p):p.1=k:=by
 unfold jJ at h;have:=ir h;exact of_decide_eq_true (dG.1 this).2
theorem wn{l:List Pr}{k:ByteArray}{p:Pr}(h:jJ l k=some p):p∈l:=by
 unfold jJ at h;exact(dG.1 (ir h)).1
theorem PL{l:List Pr}{k:ByteArray}(h:∀q∈l,q.1≠k):jJ l k=none:=by
 unfold jJ;rw[List.filter_eq_nil_iff.2 fun q b=>by simpa using h q b];rfl
theorem Va{l b:List Pr}(h:Eqf W8 l b)(k:ByteArray):jJ b k=jJ l k:=by
 unfold jJ;have:=h.flt (k,k);have e:∀m:List Pr,m.filter (Ku W8 (k,k))=m.filter fun q=>decide (q.1=k):=fun m=>List.filter_congr fun q _=>Xr (k,k) q
 rw[e,e]at this;rw[this]
def rp(l:List Pr):List Pr:=l.foldl (fun acc p=>vG p acc) []
theorem D0:∀(l:List Pr) {acc:List Pr},fE acc→fE (l.foldl (fun acc p=>vG p acc) acc)∧∀p,p∈l.foldl (fun acc p=>vG p acc) acc↔jJ l p.1=some p∨(jJ l p.1=none∧p∈acc)
 | [],acc,hr=>⟨hr,fun p=>by simp[jJ]⟩
 |q::l,acc,hr=>by
  obtain⟨d,h2⟩:=D0 l (JJ q hr);refine⟨d,fun p=>?_⟩
  rw[List.foldl_cons,h2 p,qj,EN hr];by_cases e:q.1=p.1
  ·rw[if_pos e]
   cases hl:jJ l p.1 with
   |none=>
    simp only[Option.getD_none,Option.some.injEq,reduceCtorEq,false_or,false_and,or_false];constructor
    ·rintro⟨_,rfl|⟨_,h⟩⟩
     ·rfl
     ·exact absurd e.symm h
    ·rintro rfl;exact⟨trivial,.inl rfl⟩
   |some r=>simp
  ·rw[if_neg e]
   constructor
   ·rintro(h|⟨h,rfl|⟨b,_⟩⟩)
    ·exact .inl h
    ·exact absurd rfl e
    ·exact .inr ⟨h,b⟩
   ·rintro(h|⟨h,b⟩)
    ·exact .inl h
    ·exact .inr ⟨h,.inr ⟨b,fun c=>e c.symm⟩⟩
theorem vY(l:List Pr):fE (rp l):=(D0 l dh).1
theorem FZ{l:List Pr}{p:Pr}:p∈rp l↔jJ l p.1=some p:=by
 have:=(D0 l (acc:= []) dh).2 p;unfold rp;rw[this];simp
def l5:List Pr→List Pr
 | []=> []
 | [p]=> [p]
 |p::q::l=>if q.1=p.1 then l5 (q::l)else p::l5 (q::l)
theorem qO(p q:Pr)(l:List Pr):l5 (p::q::l)=if q.1=p.1 then l5 (q::l)else p::l5 (q::l):=rfl
theorem Bg:∀(l:List Pr),∀p∈l5 l,p∈l
 | [],p,h=>h
 | [q],p,h=>h
 |q::r::l,p,h=>by
  rw[qO]at h;split at h
  ·exact aA _ (Bg (r::l) p h)
  ·rcases ar.1 h with rfl|h
   ·exact aD ..
   ·exact aA _ (Bg (r::l) p h)
theorem Ke:∀{l:List Pr},Srt W8 l→fE (l5 l)∧∀p,p∈l5 l↔jJ l p.1=some p
 | [],_=>⟨dh,fun p=>by simp[l5,jJ]⟩
 | [q],_=>⟨List.pairwise_singleton ..,fun p=>by
   show p∈[q]↔_
   rw[aq,qj]
   by_cases e:q.1=p.1
   ·rw[if_pos e];simp[jJ,eq_comm]
   ·rw[if_neg e];simp only[jJ,List.filter_nil,List.getLast?_nil,reduceCtorEq,iff_false]
    rintro rfl;exact e rfl⟩
 |p::q::l,hs=>by
  have c:=bF.1 hs;obtain⟨i,h2⟩:=Ke (l:=q::l) c.2;rw[qO];by_cases e:q.1=p.1
  ·rw[if_pos e]
   refine⟨i,fun r=>?_⟩
   rw[h2 r,qj p];by_cases b:p.1=r.1
   ·rw[if_pos b]
    have:jJ (q::l) r.1≠none:=by
     rw[qj,if_pos (e.trans b)];simp
    cases hl:jJ (q::l) r.1 with
    |none=>exact absurd hl this
    |some z=>simp
   ·rw[if_neg b]
  ·rw[if_neg e]
   have f:∀r∈q::l,kl p.1 r.1:=fun r g=>by
    have d:kl p.1 q.1:=by
     have:=of_decide_eq_false (c.1 q (aD ..));exact vF this e
    rcases ar.1 g with rfl|g
    ·exact d
    ·have:=of_decide_eq_false ((bF.1 c.2).1 r g)
     by_cases b:r.1=q.1
     ·rw[b];exact d
     ·exact ii d (vF this b)
   refine⟨bF.2 ⟨fun r g=>f r (Bg _ r g),i⟩,fun r=>?_⟩
   rw[ar,h2 r,qj p];by_cases b:p.1=r.1
   ·rw[if_pos b]
    have n:jJ (q::l) r.1=none:=PL fun z m j=>by
     have:=f z m;rw[j,b]at this;exact dS _ this
    rw[n];simp[eq_comm]
   ·rw[if_neg b]
    constructor
    ·rintro(rfl|h)
     ·exact absurd rfl b
     ·exact h
    ·exact .inr
theorem PK{l ys:List Pr}(h:St W8 l ys):l5 ys=rp l:=by
 obtain⟨b,h2⟩:=Ke h.srt;refine zK b (vY l) fun p=>?_
 rw[h2 p,FZ,Va h.eqf]
theorem aag(M:Nat→Prop):Cmp W8 fw M (fun _=>True) (.func (.func 162) #[] #[]):=by
 refine⟨fun a b h K _ f=>HV.mk' (eM (xV a b) .nil Tryz.func162 Tryz.call162 ?_),fun _ h=>h⟩
 dsimp only[xV,cE,xj,pN,j5];refine bj fun g b1 k1=>bj fun h2 b2 c=>?_
 have c1:=c.get0 b1;refine⟨a.1,vc c1 0,a.2,vc c1 1,b.1,vc b2 0,?_⟩;refine Nk fun d e=>f d _ ((k1.tr c).tr e) ?_
 unfold Bo W8;split
 ·rename_i h;rw[decide_eq_true h];rfl
 ·rename_i h
  rw[decide_eq_false h];split<;>rfl
theorem G4:∀(l:List Pr),(l5 l).length≤l.length
 | []=>ai _
 | [_]=>ai _
 |p::q::l=>by
  rw[qO];have:=G4 (q::l);split
  ·simp only[av]at this⊢;omega
  ·simp only[av]at this⊢;omega
theorem DS{h:ae}{t:TypeId}{p:Pr}{k:ae→Prop}(c:∀h',h'[h.size]? =some (.cells #[.string p.1,.string p.2] t (0,0))→Upd No h h'→k h'):
 At (hnew h [.string (⟨#[]⟩:ByteArray),.string (⟨#[]⟩:ByteArray)] t) (fun b=>xw b (some (aJ h)) 0 [.string p.1,.string p.2]∧At (iw b (aJ h) 0 [.string p.1,.string p.2]) k):=JZ (p:=p) c
theorem AY{N:Nat}(st:StP N)(hN:N≤100000000){W W':Nat→Prop}{h:ae}{s:SliceV}{l:List Pr}(hs:Sl fw 2 W h s l)(S:∀y,W' y→y<h.size)(hn:l.length≤N){K:SliceV→ae→Prop}
  (hk:∀s' o,Sl fw 2 W' o s' (rp l)→s'.len≤s'.cap→Upd No h o→K s' o):fU 132 [.slice s.a s.len s.cap] K h:=by
 refine eM (AF s) Ju Tryz.func132 Tryz.call132 ?_;dsimp only[AF,nv,cE,ja,iR,j5,sM,ic,ji,CS,fG,pq,HL,vz,FC,cg];refine Aa hs (by omega) fun L h1 Z D=>?_
 refine st YA (aag _) Z trivial (by omega) fun h2 ys C A U=>?_
 have hyl:=A.eqf.len;have F:Upd No h h2:=D.trans U fun x hx=>.inr hx
 have hlen:=C.len;have v:=PK A;have z1:=D.size;have hll:=G4 ys;refine LoopP.ghost (fun(g:List Pr×List Pr×List Pr) (t:Int×Int) o=>t.1=(g.1.length:Int)∧t.2=((g.1.length+g.2.1.length:Nat):Int)∧g.1++l5 g.2.2=l5 ys∧g.1.length+g.2.1.length+g.2.2.length=ys.length∧OwnS fw 2 201 (fun b=>h.size≤b) o L (g.1++(g.2.1++g.2.2))∧Upd No h o) (fun g=>g.2.2.length) ([],[],ys)
  ⟨rfl,rfl,rfl,by simp,C,F⟩ ?_
 rintro I ⟨R,G,T⟩ ⟨tn,ti⟩ h3 ⟨e1,J,n,d,f,E⟩ hI;(try simp only at e1 J n d f)
 subst e1 J;refine ak (fun hlt=>?_) fun hge=>?_
 ·match T with
  | []=>simp only[aQ]at d;omega
  |p::T=>
   simp only[av]at d;have ew:ac .i64 (((R.length+G.length:Nat):Int)+1)=((R.length+G.length+1:Nat):Int):=by rw[dL (by omega)];omega
   (try simp only)
   rw[ew];refine Join.intro (fun n' o=>∃R' G',n'=(R'.length:Int)∧R'.length+G'.length=R.length+G.length+1∧R'++l5 T=l5 ys∧OwnS fw 2 201 (fun b=>h.size≤b) o L (R'++(G'++T))∧Upd No h o) (fun Rj w=>?_) ?_
   ·obtain⟨a,H,hv⟩:=qt f (i:=R.length+G.length) (x:=p) (by rw[aH (by omega),cy,aH (ai _),di];rfl)
    refine⟨⟨by omega,by omega⟩,a,H,p.1,hv 0 _ rfl,p.2,hv 1 _ rfl,?_⟩
    refine DS (p:=p) fun h4 b4 k4=>?_
    have j:=f.upd k4 fun _ _ h=>h
    have u:=E.tr k4;refine Join.intro (fun t o=>o=h4∧(t=true↔∃q z,T=q::z∧q.1=p.1)) (fun Rk B=>?_) ?_
    ·refine ak (fun hlt2=>?_) fun hge2=>B _ _ ⟨rfl,⟨fun h=>(by cases h),fun⟨q,z,e,_⟩=>(by subst e;simp only[av]at d;omega)⟩⟩
     rcases T with _|⟨q,T⟩
     ·simp only[aQ]at d;omega
     ·obtain⟨a',ha',X⟩:=qt j (i:=R.length+G.length+1) (x:=q) (by rw[aH (by omega),show R.length+G.length+1-R.length=G.length+1 by omega,aH (by omega),cy];rfl)
      refine⟨⟨by omega,by omega⟩,a',ha',q.1,X 0 _ rfl,p.1,vc b4 0,B _ _ ⟨rfl,?_⟩⟩
      rw[N4,decide_eq_true_iff];exact⟨fun e=>⟨q,T,rfl,e⟩,fun⟨q',z,e,e'⟩=>by cases e;exact e'⟩
    ·rintro t h5 ⟨rfl,ht⟩
     ·cases t with
      |true=>
       obtain⟨q,z,rfl,eq⟩:=ht.1 rfl;refine aV.2 (w _ _ ⟨R,G++ [p],rfl,by simp;omega,?_,by simpa using j,u⟩)
       rw[←n,qO,if_pos eq]
      |false=>
       have O:l5 (p::T)=p::l5 T:=by
        rcases T with _|⟨q,z⟩
        ·rfl
        ·rw[qO,if_neg fun e=>by have:=ht.2 ⟨q,z,rfl,e⟩;cases this]
       refine ay.2 ⟨p.1,vc b4 0,p.2,vc b4 1,⟨by omega,by omega⟩,a,H,?_⟩
       have ew2:ac .i64 ((R.length:Int)+1)=((R++ [p]).length:Int):=by rw[af,aI,dL (by omega)];omega
       rw[ew2];rcases G with _|⟨g,G⟩
       ·rw[bZ]at j
        refine lY j p H (by simp) fun h6 P V=>w _ _ ⟨R++ [p],[],rfl,by simp,?_,by simpa using P,u.trans V fun b hb=>.inr hb⟩
        rw[←n,O];simp
       ·have f1:R++((g::G)++p::T)=R++g::(G++p::T):=by simp
        rw[f1]at j;refine lY j p H (by simp) fun h6 P V=>w _ _ ⟨R++ [p],G++ [p],rfl,by simp;omega,?_,by simpa using P,u.trans V fun b hb=>.inr hb⟩
        rw[←n,O];simp
   ·rintro n' h6 ⟨R',G',rfl,Q,hl6,ho6,Y⟩
    exact hI (R',G',T) _ _ ⟨rfl,by(try simp only);rw[Q],hl6,by(try simp only);omega,ho6,Y⟩ (by simp)
 ·have O:T= []:=ax.1 (by omega)
  subst O;simp only[aQ]at d;simp only[l5,bi]at n f;have hcap:=f.cap;refine⟨⟨by(try simp only);omega,by(try simp only);omega⟩,?_⟩
  have hsl:=f.sl (W:=W') fun x hx _ hw=>by have:=S x hw;omega
  have hA:=Sl.sub hsl (l:=0) (hi:=R.length) (m:=L.cap) (c:=L.cap-0) (Nat.zero_le _) (by simp) (by omega);have J:((R++G).drop 0).take (R.length-0)=rp l:=by rw[List.drop_zero,Nat.sub_zero,List.take_left];exact n.trans v
  rw[J]at hA;exact hk _ _ hA (by(try simp only);omega) E
theorem RW{W W':Nat→Prop}{h:ae}{s:SliceV}{l:List Pr}(c:Sl fw 2 W h s l)(b:∀y,W' y→y<h.size)(e:l.length≤10000000){K:SliceV→ae→Prop}
 (d:∀s' h',Sl fw 2 W' h' s' (rp l)→s'.len≤s'.cap→Upd No h h'→K s' h'):fU 132 [.slice s.a s.len s.cap] K h:=AY stP (ai _) c b (by omega) d
end Go.Proofs
namespace Go.Proofs
open Go Go.Lift
theorem Ip{h:ae}{b:Nat}{c:Array Value}{t:TypeId}(d:h[b]? =some (.cells c t (0,0))):bh h ⟨b,0,none⟩=c[0]?:=bO d
theorem S7{z:Hs}{W:Nat→Prop}{h:ae}{s:SliceV}{xs:List Pr}(e:Sl (qk z) 3 W h s xs)(p:xs.length*40≤140737488355328){K:SliceV→ae→Prop}
  (g:∀s' c,OwnS (qk z) 3 291 (fun b=>h.size≤b) c s' xs→Upd No h c→K s' c):fU 228 [.slice s.a s.len s.cap] K h:=by
 refine eM (ga s) .nil Tryz.func228 Tryz.call228 ?_;unfold ga Oz;refine CondP.intro (fun d=>?_) (fun m=>?_)
 ·have d:s.a=none:=by simpa using d
  have hx:xs= []:=by
   by_cases hx:xs= []
   ·exact hx
   ·obtain⟨a,i,_⟩:=e.row hx
    rw[d]at i;cases i
  subst hx;exact g _ _ (OwnS.nil (LH z)) (Upd.refl _ _)
 ·have h2:=e.upd (Upd.hnew No h [] 291) (fun _ h=>h.elim)
  refine⟨_,h2.srow,?_⟩;refine AppP.own (f:=qk z) (M:=fun b=>h.size≤b) (xs:= []) (ys:=xs) ⟨rfl,LH z,ai _,.inl rfl⟩ e.len rfl (QR z xs) rfl (by omega) (by simpa using p) (by rw[eI];omega) fun s' c j n=>?_
  exact g _ _ j ((Upd.hnew No h [] 291).trans n fun b o=>.inr o)
theorem SL{z:Hs}{W:Nat→Prop}{h:ae}{s:SliceV}{xs:List Pr}(y:Sl (qk z) 3 W h s xs)(w:xs.length≤1000000000){g:Pr→Bool}{V:Value}(F:∀p∈xs,∀{c:ae} {K:Bool→ae→Prop},Upd No h c→(∀h'',Upd No c h''→K (g p) h'')→HV PG V [.agg (qk z p).toArray] [.c .bool] K c){K:Int→ae→Prop}
  (v:∀c A B e,xs=A++B→(∀a∈A,g a=false)→(B= []→e= -1)→(∀b o,B=b::o→e=(A.length:Int)∧g b=true)→Upd No h c→K e c):iI 232 [.slice s.a s.len s.cap,V] K h:=by
 refine eM (fM s V) km Tryz.func232 Tryz.call232 ?_;dsimp only[fM,vA,CU,db,ic,ji,CS,fG];have f:=y.len;refine LoopP.ghost (fun(m:List Pr×List Pr) (t:Int) c=>t=(m.1.length:Int)∧xs=m.1++m.2∧(∀a∈m.1,g a=false)∧Upd No h c) (fun g=>g.2.length) ([],xs) ⟨rfl,rfl,fun a d=>(by cases d),Upd.refl _ _⟩ ?_
 rintro I ⟨A,B⟩ t c ⟨u,C,n,j⟩ H;(try simp only at u C n)
 subst u C;simp only[af]at f w;refine ak (fun D=>?_) fun E=>?_
 ·rcases B with _|⟨p,B⟩
  ·simp only[aQ]at f;omega
  ·obtain⟨a,d,_,hv⟩:=(y.upd j fun _ h=>h.elim).at (i:=A.length) (x:=p) (by rw[aH (ai _),di];rfl)
   refine⟨⟨by omega,by omega⟩,a,d,p.1,hv 0 _ rfl,p.2,hv 1 _ rfl,jZ z p.1,hv 2 _ rfl,?_⟩
   refine F p (by simp) j fun h2 q=>?_
   cases hgp:g p with
   |true=>exact aV.2 (v h2 A (p::B) _ rfl n (fun h=>by cases h) (fun b o e=>by cases e;exact⟨rfl,hgp⟩) (j.tr q))
   |false=>
    refine ay.2 ?_;have G:ac .i64 ((A.length:Int)+1)=((A++ [p]).length:Int):=by simp only[av]at w;rw[af,aI,dL (by omega)];omega
    rw[G];refine H (A++ [p],B) _ _ ⟨rfl,by simp,fun a d=>?_,j.tr q⟩ (by simp)
    rcases be.1 d with d|d
    ·exact n a d
    ·rw[aq.1 d];exact hgp
 ·have J:B= []:=ax.1 (by omega)
  subst J;exact v c A [] _ rfl n (fun _=>rfl) (fun b o e=>by cases e) j
theorem SK{W:Nat→Prop}{h:ae}{s:SliceV}{xs:List Pr}(y:Sl fw 2 W h s xs)(w:xs.length≤1000000000){g:Pr→Bool}{V:Value}(E:∀p∈xs,∀{c:ae} {K:Bool→ae→Prop},Upd No h c→(∀h'',Upd No c h''→K (g p) h'')→HV PG V [.agg (fw p).toArray] [.c .bool] K c){K:Int→ae→Prop}
  (v:∀c A B e,xs=A++B→(∀a∈A,g a=false)→(B= []→e= -1)→(∀b o,B=b::o→e=(A.length:Int)∧g b=true)→Upd No h c→K e c):iI 220 [.slice s.a s.len s.cap,V] K h:=by
 refine eM (gJ s V) l9 Tryz.func220 Tryz.call220 ?_;dsimp only[gJ,pN,sM,ic,ji,CS,fG];have f:=y.len;refine LoopP.ghost (fun(m:List Pr×List Pr) (t:Int) c=>t=(m.1.length:Int)∧xs=m.1++m.2∧(∀a∈m.1,g a=false)∧Upd No h c) (fun g=>g.2.length) ([],xs) ⟨rfl,rfl,fun a d=>(by cases d),Upd.refl _ _⟩ ?_
 rintro I ⟨A,B⟩ t c ⟨u,z,n,j⟩ G;(try simp only at u z n)
 subst u z;simp only[af]at f w;refine ak (fun C=>?_) fun D=>?_
 ·rcases B with _|⟨p,B⟩
  ·simp only[aQ]at f;omega
  ·obtain⟨a,d,_,hv⟩:=(y.upd j fun _ h=>h.elim).at (i:=A.length) (x:=p) (by rw[aH (ai _),di];rfl)
   refine⟨⟨by omega,by omega⟩,a,d,p.1,hv 0 _ rfl,p.2,hv 1 _ rfl,?_⟩
   refine E p (by simp) j fun h2 q=>?_
   cases hgp:g p with
   |true=>exact aV.2 (v h2 A (p::B) _ rfl n (fun h=>by cases h) (fun b o e=>by cases e;exact⟨rfl,hgp⟩) (j.tr q))
   |false=>
    refine ay.2 ?_;have F:ac .i64 ((A.length:Int)+1)=((A++ [p]).length:Int):=by simp only[av]at w;rw[af,aI,dL (by omega)];omega
    rw[F];refine G (A++ [p],B) _ _ ⟨rfl,by simp,fun a d=>?_,j.tr q⟩ (by simp)
    rcases be.1 d with d|d
    ·exact n a d
    ·rw[aq.1 d];exact hgp
 ·have H:B= []:=ax.1 (by omega)
  subst H;exact v c A [] _ rfl n (fun _=>rfl) (fun b o e=>by cases e) j
abbrev atV(b:Nat):Value:=.func (.func 226) #[] #[.pointer (some ⟨b,0,none⟩)]
theorem HF{z:Hs}{lev:Nat}(f:lev<13){h:ae}{b:Nat}{t:TypeId}(e:h[b]? =some (.cells #[.int .i64 (lev:Int)] t (0,0))) (p:Pr) {K:Int→ae→Prop} (c:∀h',Upd No h h'→K (ck z lev p.1:Int) h'):
  HV PG (atV b) [.agg (qk z p).toArray] [.c (.int .i64)] K h:=by
 refine HV.mk' (eM (zy (p.1,p.2,jZ z p.1) ⟨b,0,none⟩) .nil Tryz.func226 Tryz.call226 ?_);dsimp only[zy,au,Py,K0,xx];refine bj fun d b1 k1=>?_
 exact⟨_,vc b1 2,_,Ip (k1.get0 e),aa7 f (c d k1)⟩
theorem NI{a:Int}{h:ae}{K:Bool→ae→Prop}(b:K false h):f5 219 [.int .i64 a] K h:=by
 refine xR a ?_;unfold rJ;rw[bne_self_eq_false];exact b
theorem S4{a b:Int}{h:ae}{K:Int→ae→Prop}(d:∀e,decide (e<0)=decide (a<b)→K e h):iI 231 [.int .i64 a,.int .i64 b] K h:=by
 refine eM (vr a b) .nil Tryz.func231 Tryz.call231 ?_;unfold vr;refine NI (NI (ay.2 (ay.2 ?_)));refine ak (fun c=>d _ ?_) fun c=>ak (fun h2=>d _ ?_) fun h2=>d _ ?_
 ·rw[decide_eq_true c];rfl
 ·rw[decide_eq_false c];rfl
 ·rw[decide_eq_false c];rfl
def YC(z:Hs)(lev:Nat)(a b:Pr):Bool:=decide (ck z lev a.1<ck z lev b.1)
theorem YB(z:Hs)(lev:Nat):WO (YC z lev):=by
 refine⟨fun a=>decide_eq_false (by omega),fun a b h=>decide_eq_false ?_,fun a b c h k=>decide_eq_false ?_⟩
 ·have:=of_decide_eq_true h;omega
 ·have:=of_decide_eq_false h;have:=of_decide_eq_false k;omega
theorem Xs(z:Hs)(lev:Nat)(x a:Pr):Ku (YC z lev) x a=decide (ck z lev a.1=ck z lev x.1):=by
 unfold Ku YC;by_cases e:ck z lev a.1=ck z lev x.1
 ·rw[decide_eq_true e,e];simp
 ·rw[decide_eq_false e]
  rcases Nat.lt_or_gt_of_ne e with h|h
  ·rw[decide_eq_true h];rfl
  ·rw[decide_eq_true (p:=ck z lev x.1<ck z lev a.1) h];simp
def Two(b c:Nat)(lev:Nat)(h:ae):Prop:=h[b]? =some (.cells #[.int .i64 (lev:Int)] 3 (0,0))∧h[c]? =some (.cells #[atV b] 337 (0,0))
theorem Two.upd{b d lev:Nat}{h c:ae}(t:Two b d lev h)(k:Upd No h c):Two b d lev c:=⟨k.get0 t.1,k.get0 t.2⟩
theorem aa6{z:Hs}{lev:Nat}(o:lev<13){i f:Nat}{M:Nat→Prop}(n:¬M i)(h2:¬M f):Cmp (YC z lev) (qk z) M (Two i f lev) (.func (.func 230) #[] #[.pointer (some ⟨f,0,none⟩)]):=by
 refine⟨fun a b h K t s=>HV.mk' (eM (zx (a.1,a.2,jZ z a.1) (b.1,b.2,jZ z b.1) ⟨f,0,none⟩) .nil Tryz.func230 Tryz.call230 ?_),fun k t=>⟨k.get t.1 n,k.get t.2 h2⟩⟩
 dsimp only[zx,au,nU,cE,OI,vA,Py,j5];refine bj fun n b1 k1=>bj fun h2 b2 m=>?_
 have c:=k1.tr m;have d:=t.upd c;have c1:=m.get0 b1;refine⟨_,Ip d.2,_,vc c1 0,_,vc c1 1,_,vc c1 2,_,Ip d.2,_,vc b2 0,_,vc b2 1,_,vc b2 2,?_⟩;refine HF (z:=z) o d.1 a fun v g=>?_
 have j:=d.upd g;have b3:=g.get0 b2;refine⟨⟨vc b3 0,vc b3 1,vc b3 2⟩,Ip j.2,?_⟩;refine HF (z:=z) o j.1 b fun q u=>?_
 refine S4 fun e p=>s q e ((c.tr g).tr u) ?_
 rw[p];unfold YC;exact decide_eq_decide.2 (by omega)
end Go.Proofs
