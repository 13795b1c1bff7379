/- A part of the proof that the named laws of this program answer true, whatever the input. -/
import Derived.Test.YtceikogjngfacaaGreatPart2
open Go.IntKind renaming wrap→ac
open List renaming length_append→af,length_nil→aQ,length_cons→av,length_eq_zero_iff→ax,append_nil→bi,nil_append→bZ,take_append_drop→aN,length_take→aL,length_drop→aW,append_assoc→aw,mem_singleton→aq,length_singleton→aI,getElem?_eq_some_iff→bv,getElem?_eq_getElem→ag,getElem_of_mem→ct,getElem?_append_left→bw,getElem?_append_right→aH
open Nat renaming eq_zero_or_pos→cU,le_refl→ai,add_sub_cancel_left→cy,sub_self→di
namespace Go.Proofs
open Go Go.Lift
variable {z0:Hs}
theorem vC{M:Nat→Prop}{h:ae}{s:SliceV}{A U C V B:List (Pr)}(G:OwnS (qk z0) 3 291 M h s (A++(U++(C++(V++B)))))(hn:s.len≤1000000000)(f:U.length=V.length){a b:Nat}(e:a=A.length)(y:b=A.length+U.length+C.length){n:Nat}(D:n=U.length){w:Value}{K:Unit→ae→Prop}
  (N:∀j,OwnS (qk z0) 3 291 M j s (A++(V++(C++(U++B))))→Upd M h j→K () j):eJ 297 [.slice s.a s.len s.cap,.int .i64 a,.int .i64 b,.int .i64 n,w] K h:=by
 subst e y D;refine mI s A.length (A.length+U.length+C.length:Nat) U.length w ?_;dsimp only[il,Fh,X7,cg,ic,ji,IZ,vz];have d:=G.len;simp only[af]at d;refine LoopP.ghost (fun(g:(List (Pr)×List (Pr))×List (Pr)×List (Pr)) (t:Int) j=>t=(g.1.1.length:Int)∧U=g.1.1++g.1.2∧V=g.2.1++g.2.2∧g.1.1.length=g.2.1.length∧OwnS (qk z0) 3 291 M j s (A++(g.2.1++(g.1.2++(C++(g.1.1++(g.2.2++B))))))∧Upd M h j) (fun g=>g.1.2.length) (([],U),[],V)
  ⟨rfl,rfl,rfl,rfl,G,Upd.refl _ _⟩ ?_
 rintro I ⟨⟨U1,U2⟩,V1,V2⟩ t j ⟨L,R,P,J,c,H⟩ hI;(try simp only at L R P J c)
 subst L R P;simp only[af]at f d;refine ak (fun q=>?_) fun z=>?_
 ·simp only[af]at q
  match U2,V2 with
  | [],_=>simp only[aQ]at q;omega
  |_::_,[]=>simp only[aQ,av]at f;omega
  |u::U2,v::V2=>
   simp only[av]at f d;simp only[af,av];have E:ac .i64 (((A.length+(U1.length+(U2.length+1))+C.length:Nat):Int)+(U1.length:Int))=((A.length+(U1.length+(U2.length+1))+C.length+U1.length:Nat):Int):=by rw[dL (by omega)];omega
   have F:ac .i64 ((A.length:Int)+(U1.length:Int))=((A.length+U1.length:Nat):Int):=by rw[dL (by omega)];omega
   rw[E,F];have Z:A++(V1++((u::U2)++(C++(U1++((v::V2)++B)))))=(A++V1)++u::(U2++(C++(U1++(v::V2++B)))):=by simp
   have Y:(A++V1)++u::(U2++(C++(U1++(v::V2++B))))=((A++V1)++u::(U2++(C++U1)))++v::(V2++B):=by simp
   have f3:(A++V1)++v::(U2++(C++(U1++(v::V2++B))))=((A++V1)++v::(U2++(C++U1)))++v::(V2++B):=by simp
   have X:((A++V1)++v::(U2++(C++U1)))++u::(V2++B)=A++((V1++ [v])++(U2++(C++((U1++ [u])++(V2++B))))):=by simp
   rw[Z]at c;obtain⟨a,e,o⟩:=fF c (i:=A.length+U1.length) (by rw[af];omega);have m:=c;rw[Y]at m;obtain⟨a',x,p⟩:=fF m (i:=A.length+(U1.length+(U2.length+1))+C.length+U1.length) (by simp only[af,av];omega);rw[e]at x;cases x;refine⟨⟨by omega,by omega⟩,a,e,v.1,p 0 _ rfl,v.2,p 1 _ rfl,jZ z0 v.1,p 2 _ rfl,⟨by omega,by omega⟩,a,e,u.1,o 0 _ rfl,u.2,o 1 _ rfl,jZ z0 u.1,o 2 _ rfl,⟨by omega,by omega⟩,a,e,?_⟩
   refine lY c v e (by rw[af];omega) fun h2 Q W=>⟨⟨by omega,by omega⟩,a,e,?_⟩
   rw[f3]at Q;refine lY Q u e (by first|omega|(simp;done)|(simp;omega)) fun h3 O T=>?_
   rw[X]at O;rw[tc (n:=U1.length+(U2.length+1)) (by omega) (by omega)];exact hI ((U1++ [u],U2),V1++ [v],V2) _ _ ⟨by simp,by simp,by simp,by simp[J],O,(H.trans W fun b y=>.inl y).trans T fun b y=>.inl y⟩ (by simp)
 ·simp only[af]at z
  have S:U2= []:=ax.1 (by omega);have h2:V2= []:=ax.1 (by rw[S,aQ]at f;omega);subst S h2;simp only[bi,bZ]at c N;exact N j c H
theorem Pb{M:Nat→Prop}{h:ae}{s:SliceV}{A U V B:List (Pr)}(R:OwnS (qk z0) 3 291 M h s (A++(U++(V++B))))(Q:s.len≤1000000000)(X:0<U.length)(W:0<V.length){a m b:Nat}(ha:a=A.length)(hm:m=A.length+U.length)(v:b=A.length+U.length+V.length){C:Value}{K:Unit→ae→Prop}
  (Z:∀p,OwnS (qk z0) 3 291 M p s (A++(V++(U++B)))→Upd M h p→K () p):eJ 292 [.slice s.a s.len s.cap,.int .i64 a,.int .i64 m,.int .i64 b,C] K h:=by
 subst ha hm v;refine eM (jm s A.length (A.length+U.length:Nat) (A.length+U.length+V.length:Nat) C) oc Tryz.func292 Tryz.call292 ?_;unfold jm;have z:=R.len;simp only[af]at z;have F:ac .i64 (((A.length+U.length:Nat):Int)-(A.length:Int))=(U.length:Int):=by rw[dL (by omega)];omega
 have G:ac .i64 (((A.length+U.length+V.length:Nat):Int)-((A.length+U.length:Nat):Int))=(V.length:Int):=by rw[dL (by omega)];omega
 rw[F,G];refine LoopP.ghost (fun(g:(List (Pr)×List (Pr))×List (Pr)×List (Pr)) (t:Int×Int) p=>t.1=(g.1.2.length:Int)∧t.2=(g.2.1.length:Int)∧0<g.1.2.length∧0<g.2.1.length∧A.length+U.length=g.1.1.length+g.1.2.length∧g.1.1++(g.2.1++(g.1.2++g.2.2))=A++(V++(U++B))∧OwnS (qk z0) 3 291 M p s (g.1.1++(g.1.2++(g.2.1++g.2.2)))∧Upd M h p) (fun g=>g.1.2.length+g.2.1.length) ((A,U),V,B)
  ⟨rfl,rfl,X,W,rfl,rfl,R,Upd.refl _ _⟩ ?_
 rintro I ⟨⟨A',U'⟩,V',f⟩ ⟨ti,tj⟩ p ⟨F,G,P,O,o,e,c,L⟩ T;simp only at F G P O o e c;subst F G;have d:=c.len;simp only[af]at d;have N:((A.length+U.length:Nat):Int)=((A'.length+U'.length:Nat):Int):=by omega
 rw[N];have S:ac .i64 (((A'.length+U'.length:Nat):Int)-(U'.length:Int))=(A'.length:Int):=by rw[dL (by omega)];omega
 simp only;rw[S];refine CondP.intro (fun i=>?_) fun E=>?_
 ·have i:(U'.length:Int)≠(V'.length:Int):=by simpa using i
  refine ak (fun y=>?_) fun hle=>?_
  ·
   have y:V'.length<U'.length:=by omega
   obtain⟨U1,U2,rfl,j⟩:∃U1 U2,U'=U1++U2∧U1.length=V'.length:=⟨U'.take V'.length,U'.drop V'.length,(aN ..).symm,by rw[aL];omega⟩
   simp only[af]at y d o i S;have D:A'++((U1++U2)++(V'++f))=A'++(U1++(U2++(V'++f))):=by simp
   have Y:A'++(V'++(U2++(U1++f)))=(A'++V')++(U2++(U1++f)):=by simp
   rw[D]at c;refine vC c Q j rfl (b:=A'.length+(U1++U2).length) (by simp only[af];omega) (n:=V'.length) j.symm fun h2 q w=>?_
   rw[Y]at q;have u:ac .i64 (((U1++U2).length:Int)-(V'.length:Int))=(U2.length:Int):=by rw[af,dL (by omega)];omega
   rw[u];refine T ((A'++V',U2),U1,f) _ _ ⟨rfl,by simp only;omega,by simp only;omega,by simp only;omega,by simp only[af];omega,?_,q,L.trans w fun b v=>.inl v⟩ (by simp only[af];omega)
   rw[←e];simp
  ·have H:U'.length<V'.length:=by omega
   obtain⟨V1,V2,rfl,j⟩:∃V1 V2,V'=V1++V2∧V2.length=U'.length:=⟨V'.take (V'.length-U'.length),V'.drop (V'.length-U'.length),(aN ..).symm,by rw[aW];omega⟩
   simp only[af]at H d i;have u:ac .i64 ((ac .i64 (((A'.length+U'.length:Nat):Int)+((V1++V2).length:Int)))-(U'.length:Int))=((A'.length+U'.length+V1.length:Nat):Int):=by
    rw[af,dL (x:=((A'.length+U'.length:Nat):Int)+((V1.length+V2.length:Nat):Int)) (by omega),dL (by omega)];omega
   rw[u];have D:A'++(U'++((V1++V2)++f))=A'++(U'++(V1++(V2++f))):=by simp
   rw[D]at c;refine vC c Q j.symm rfl rfl rfl fun h2 q w=>?_
   have J:ac .i64 (((V1++V2).length:Int)-(U'.length:Int))=(V1.length:Int):=by rw[af,dL (by omega)];omega
   rw[J];refine T ((A',V2),V1,U'++f) _ _ ⟨by simp only;omega,rfl,by simp only;omega,by simp only;omega,by simp only;omega,?_,q,L.trans w fun b v=>.inl v⟩ (by simp only[af];omega)
   rw[←e];simp
 ·have E:(U'.length:Int)=(V'.length:Int):=by simpa using E
  have D:A'++(U'++(V'++f))=A'++(U'++([]++(V'++f))):=by simp
  rw[D]at c;refine vC c Q (by omega) rfl (b:=A'.length+U'.length) (by simp) rfl fun h2 q w=>?_
  rw[bZ,e]at q;exact Z h2 q (L.trans w fun b v=>.inl v)
theorem EP{lt:Pr→Pr→Bool}(w:WO lt){M:Nat→Prop}{Iv:ae→Prop}{E:Value}(hc:Cmp lt (qk z0) M Iv E){h:ae}{s:SliceV}{A S B:List (Pr)}(ho:OwnS (qk z0) 3 291 M h s (A++(S++B)))(hi:Iv h)(hn:s.len≤1000000000){a b:Nat}(c:a=A.length)(W:b=A.length+S.length){K:Unit→ae→Prop}
  (hk:∀C R,OwnS (qk z0) 3 291 M C s (A++(R++B))→St lt S R→Upd M h C→K () C):eJ 277 [.slice s.a s.len s.cap,.int .i64 a,.int .i64 b,E] K h:=by
 subst c W;refine eM (f9 s A.length (A.length+S.length:Nat) E) lg Tryz.func277 Tryz.call277 ?_;dsimp only[f9,nU,vA,X7,cg,ic,ji,CU,db,CS,fG,VR,Fh,IZ,vz];have j:=ho.len;simp only[af]at j;have ea:ac .i64 ((A.length:Int)+1)=((A.length+1:Nat):Int):=by rw[dL (by omega)];omega
 rw[ea];refine LoopP.ghost (fun(g:List (Pr)×List (Pr)×List (Pr)) (t:Int) C=>t=((A.length+max 1 g.1.length:Nat):Int)∧S=g.1++g.2.2∧(g.1= []→g.2.2= [])∧St lt g.1 g.2.1∧OwnS (qk z0) 3 291 M C s (A++(g.2.1++(g.2.2++B)))∧Upd M h C) (fun g=>g.2.2.length) (S.take 1,S.take 1,S.drop 1)
  ⟨?_,(aN ..).symm,fun e=>?_,⟨Eqf.rfl _,?_⟩,by rw[←aw (S.take 1),aN];exact ho,Upd.refl _ _⟩ ?_
 ·simp only[aL];omega
 ·have:=congrArg List.length e
  simp only[aL,aQ]at this;exact ax.1 (by simp only[aW];omega)
 ·match S with
  | []=>exact Srt.nil
  |x::S=>exact Srt.one x
 rintro I ⟨S1,R1,T⟩ t C ⟨J,U,m,f,u,hu⟩ hI;(try simp only at J U m f u)
 subst J U;simp only[af]at j;have hR1:=f.eqf.len;refine ak (fun D=>?_) fun Y=>?_
 ·simp only[af]at D
  have hS1:S1≠[]:=fun e=>by
   have:=m e;subst e;subst this;simp only[aQ]at D;omega
  have hS1l:0<S1.length:=List.length_pos_iff.2 hS1;match T with
  | []=>simp only[aQ]at D;omega
  |x::T=>
   have V:A.length+max 1 S1.length=A.length+S1.length:=by omega
   rw[V];refine LoopP.ghost (fun(g:List (Pr)×List (Pr)) (t:Int) h2=>t=((A.length+g.1.length:Nat):Int)∧R1=g.1++g.2∧(∀y∈g.2,lt x y=true)∧OwnS (qk z0) 3 291 M h2 s (A++(g.1++(x::(g.2++(T++B)))))∧Upd M h h2) (fun g=>g.1.length) (R1,[])
    ⟨by(try simp only);omega,by simp,fun y d=>(by cases d),by simpa using u,hu⟩ ?_
   rintro I2 ⟨L,G⟩ t2 h2 ⟨J,U,hG,o,F⟩ hI2;(try simp only at J U hG o)
   subst J U;simp only[af]at hR1;simp only[av]at j;refine Join.intro (fun t h3=>Upd M h h3∧OwnS (qk z0) 3 291 M h3 s (A++(L++(x::(G++(T++B)))))∧(t=true→∃L' y,L=L'++ [y]∧lt x y=true)∧(t=false→∀y∈L,lt x y=false)) (fun Rj P=>?_) ?_
   ·refine ak (fun Z=>?_) fun hle=>?_
    ·rcases CD L with rfl|⟨L',y,rfl⟩
     ·simp only[aQ]at Z;omega
     have q:(L'++ [y]).length=L'.length+1:=by simp
     have O:ac .i64 (((A.length+(L'++ [y]).length:Nat):Int)-1)=((A.length+L'.length:Nat):Int):=by rw[q,dL (by omega)];omega
     rw[O];have N:A++((L'++ [y])++(x::(G++(T++B))))=(A++L')++y::(x::(G++(T++B))):=by simp
     have f2:A++((L'++ [y])++(x::(G++(T++B))))=(A++(L'++ [y]))++x::(G++(T++B)):=by simp
     have o3:=o;have H:=o;rw[N]at o3;rw[f2]at H;obtain⟨a,c,d⟩:=fF o3 (i:=A.length+L'.length) (by first|omega|(simp;done)|(simp;omega))
     obtain⟨a',n,hx⟩:=fF H (i:=A.length+(L'++ [y]).length) (by first|omega|(simp;done)|(simp;omega))
     rw[c]at n;cases n;refine⟨⟨by omega,by omega⟩,a,c,x.1,hx 0 _ rfl,x.2,hx 1 _ rfl,jZ z0 x.1,hx 2 _ rfl,⟨by omega,by omega⟩,a,c,y.1,d 0 _ rfl,y.2,d 1 _ rfl,jZ z0 y.1,d 2 _ rfl,?_⟩
     refine hc.call x y (hc.step F hi) fun h5 e X he=>?_
     rw[he];have ho5:=o.upd X fun _ _ h=>h
     refine P _ _ ⟨F.tr X.wide,ho5,fun h=>⟨L',y,rfl,h⟩,fun h z p=>?_⟩
     have hs:=f.srt.left;rcases List.mem_append.1 p with p|p
     ·exact w.ntr x y z h (hs.cross z p y (aq.2 rfl))
     ·rw[aq.1 p];exact h
    ·have hL:L= []:=ax.1 (by omega)
     exact P _ _ ⟨F,o,fun h=>(by cases h),fun _ y d=>(by rw[hL]at d;cases d)⟩
   ·rintro t3 h3 ⟨Q,v,ht,hf⟩
    cases t3 with
    |true=>
     obtain⟨L',y,rfl,hxy⟩:=ht rfl;have q:(L'++ [y]).length=L'.length+1:=by simp
     refine aV.2 ?_;have O:ac .i64 (((A.length+(L'++ [y]).length:Nat):Int)-1)=((A.length+L'.length:Nat):Int):=by rw[q,dL (by omega)];omega
     rw[O];have N:A++((L'++ [y])++(x::(G++(T++B))))=(A++L')++y::(x::(G++(T++B))):=by simp
     have f2:(A++L')++y::(x::(G++(T++B)))=(A++(L'++ [y]))++x::(G++(T++B)):=by simp
     have f3:(A++(L'++ [y]))++y::(G++(T++B))=(A++L')++y::(y::(G++(T++B))):=by simp
     have f4:(A++L')++x::(y::(G++(T++B)))=A++(L'++(x::((y::G)++(T++B)))):=by simp
     rw[N]at v;have H:=v;rw[f2]at H;obtain⟨a,c,d⟩:=fF v (i:=A.length+L'.length) (by first|omega|(simp;done)|(simp;omega))
     obtain⟨a',n,hx⟩:=fF H (i:=A.length+(L'++ [y]).length) (by first|omega|(simp;done)|(simp;omega))
     rw[c]at n;cases n;refine⟨⟨by omega,by omega⟩,a,c,y.1,d 0 _ rfl,y.2,d 1 _ rfl,jZ z0 y.1,d 2 _ rfl,⟨by omega,by omega⟩,a,c,x.1,hx 0 _ rfl,x.2,hx 1 _ rfl,jZ z0 x.1,hx 2 _ rfl,⟨by omega,by omega⟩,a,c,?_⟩
     refine lY H y c (by first|omega|(simp;done)|(simp;omega)) fun h5 o5 X=>⟨⟨by omega,by omega⟩,a,c,?_⟩
     rw[f3]at o5;refine lY o5 x c (by first|omega|(simp;done)|(simp;omega)) fun h6 o6 k6=>?_
     rw[f4]at o6;refine hI2 (L',y::G) _ _ ⟨rfl,by simp,fun z p=>?_,o6,(Q.trans X fun b W=>.inl W).trans k6 fun b W=>.inl W⟩ (by simp only[q];omega)
     rcases List.mem_cons.1 p with rfl|p
     ·exact hxy
     ·exact hG z p
    |false=>
     refine ay.2 ?_;have O:ac .i64 (((A.length+S1.length:Nat):Int)+1)=((A.length+max 1 (S1.length+1):Nat):Int):=by rw[dL (by omega)];omega
     rw[O];refine hI (S1++ [x],L++x::G,T) _ _ ⟨by simp,by simp,fun e=>(by simp at e),OV w f (hf rfl) hG,?_,Q⟩ (by simp)
     have N:A++((L++x::G)++(T++B))=A++(L++(x::(G++(T++B)))):=by simp
     rw[N];exact v
 ·simp only[af]at Y
  have hT:T= []:=by
   rcases cU S1.length with h0|h0
   ·exact m (ax.1 h0)
   ·exact ax.1 (by omega)
  subst hT;rw[bZ]at u;rw[bi]at hk;exact hk C R1 u f hu
theorem B6{lt:Pr→Pr→Bool}(w:WO lt){M:Nat→Prop}{Iv:ae→Prop}{cmp:Value}(hc:Cmp lt (qk z0) M Iv cmp){s:SliceV}(hn:s.len≤1000000000):∀(n:Nat) {h:ae} {A U V B:List (Pr)},U.length+V.length≤n→OwnS (qk z0) 3 291 M h s (A++(U++(V++B)))→Iv h→0<U.length→0<V.length→Srt lt U→Srt lt V→∀{a m b:Nat},a=A.length→m=A.length+U.length→b=A.length+U.length+V.length→∀{K:Unit→ae→Prop},
  (∀X R,OwnS (qk z0) 3 291 M X s (A++(R++B))→St lt (U++V) R→Upd M h X→K () X)→eJ 278 [.slice s.a s.len s.cap,.int .i64 a,.int .i64 m,.int .i64 b,cmp] K h:=by
 intro n;induction n with
 |zero=>intro h A U V B hl _ _ hU;omega
 |succ n ih=>
  intro h A U V B hl ho hi hU hV sU sV a m b ha hm N K hk;refine eM (ix s a m b cmp) nh Tryz.func278 Tryz.call278 ?_;dsimp only[ix,nU,vA,X7,cg,ic,ji,FF,CU,db,CS,fG,VR,Fh,IZ,vz,Th];have z:=ho.len;simp only[af]at z;have e1:ac .i64 ((m:Int)-(a:Int))=(U.length:Int):=by rw[dL (by omega)];omega
  have e2:ac .i64 ((b:Int)-(m:Int))=(V.length:Int):=by rw[dL (by omega)];omega
  rw[e1,e2];refine CondP.intro (fun F=>?_) fun hmore=>?_
  ·have F:U.length=1:=by have:=eq_of_beq F;omega
   match U,F with
   | [u],_=>
   simp only[aI]at z hm N;refine LoopP.ghost (fun(g:Nat×Nat) (t:Int×Int) X=>t.1=(g.1:Int)∧t.2=(g.2:Int)∧m≤g.1∧g.1≤g.2∧g.2≤b∧(∀q x,V[q]? =some x→m+q<g.1→lt x u=true)∧(∀q x,V[q]? =some x→g.2≤m+q→lt x u=false)∧OwnS (qk z0) 3 291 M X s (A++([u]++(V++B)))∧Upd M h X) (fun g=>g.2-g.1) (m,b)
    ⟨rfl,rfl,ai _,by(try simp only);omega,ai _,fun q x D h=>(by(try simp only at h);omega),fun q x D h=>(by have:=(bv.1 D).1;(try simp only at h);omega),ho,Upd.refl _ _⟩ ?_
   rintro I ⟨i,j⟩ ⟨ti,tj⟩ X ⟨e1,e2,hmi,H,hjb,J,L,G,hu⟩ hI;(try simp only at e1 e2 hmi H hjb J L)
   subst e1 e2;refine ak (fun O=>?_) fun hge=>?_
   ·have O:i<j:=by have:(i:Int)<(j:Int):=O;omega
    refine⟨by decide,?_⟩;simp only[Bd];rw[uw (by omega)];have hk1:(i+j)/2-m<V.length:=by omega
    have hk0:(i+j)/2=A.length+1+((i+j)/2-m):=by omega
    obtain⟨W,f,hx⟩:=qt G (i:=(i+j)/2) (x:=V[(i+j)/2-m]) (LL (U:= [u]) (k:=(i+j)/2-m) (by simp only[aI];omega) (ag hk1));obtain⟨a2,C,T⟩:=fF (P:=A) (x:=u) (Q:=V++B) G ha;rw[f]at C;cases C;have hVk:V[(i+j)/2-m]? =some V[(i+j)/2-m]:=ag hk1;generalize V[(i+j)/2-m]=x at hx hVk;refine⟨⟨by omega,by omega⟩,W,f,x.1,hx 0 _ rfl,x.2,hx 1 _ rfl,jZ z0 x.1,hx 2 _ rfl,⟨by omega,by omega⟩,W,f,u.1,T 0 _ rfl,u.2,T 1 _ rfl,jZ z0 u.1,T 2 _ rfl,?_⟩
    refine hc.call x u (hc.step hu hi) fun Y e k5 he=>?_
    rw[he];have Z:=G.upd k5 fun _ _ h=>h
    have hu5:=hu.tr k5.wide;cases hxu:lt x u with
    |true=>
     refine aV.2 ?_;have ew:ac .i64 ((((i+j)/2:Nat):Int)+1)=(((i+j)/2+1:Nat):Int):=by rw[dL (by omega)];omega
     rw[ew];refine hI ((i+j)/2+1,j) _ _ ⟨rfl,rfl,by(try simp only);omega,by(try simp only);omega,hjb,fun q y D hqi=>?_,L,Z,hu5⟩ (by(try simp only);omega)
     have hle:=jb w sV (i:=q) (j:=(i+j)/2-m) (by(try simp only at hqi);omega) D hVk;cases hyu:lt y u with
     |true=>rfl
     |false=>rw[w.ntr _ _ _ hle hyu]at hxu;cases hxu
    |false=>
     refine ay.2 ?_;refine hI (i,(i+j)/2) _ _ ⟨rfl,rfl,hmi,by(try simp only);omega,by(try simp only);omega,J,fun q y D hqi=>?_,Z,hu5⟩ (by(try simp only);omega)
     have hle:=jb w sV (i:=(i+j)/2-m) (j:=q) (by(try simp only at hqi);omega) hVk D;exact w.ntr _ _ _ hle hxu
   ·have H:i=j:=by have:¬(i:Int)<(j:Int):=hge;omega
    subst H;obtain⟨V1,V2,rfl,hV1⟩:∃V1 V2,V=V1++V2∧V1.length=i-m:=⟨V.take (i-m),V.drop (i-m),(aN ..).symm,by rw[aL];omega⟩
    simp only[af]at z N;have lo1:∀x∈V1,lt x u=true:=fun x hx=>by
     obtain⟨q,D,e⟩:=ct hx;exact J q x (by rw[bw D,ag D,e]) (by omega)
    have hi1:∀x∈V2,lt x u=false:=fun x hx=>by
     obtain⟨q,D,e⟩:=ct hx;exact L (V1.length+q) x (by rw[aH (by omega),cy,ag D,e]) (by omega)
    have hst:=B7 w sV lo1 hi1;have f0:A++([u]++((V1++V2)++B))=A++([]++(u::(V1++(V2++B)))):=by simp
    rw[f0]at G;have ew:ac .i64 ((i:Int)-1)=((A.length+V1.length:Nat):Int):=by rw[dL (by omega)];omega
    rw[ew];refine LoopP.ghost (fun(g:List (Pr)×List (Pr)) (t:Int) h2=>t=((A.length+g.1.length:Nat):Int)∧V1=g.1++g.2∧OwnS (qk z0) 3 291 M h2 s (A++(g.1++(u::(g.2++(V2++B)))))∧Upd M h h2) (fun g=>g.2.length) ([],V1)
     ⟨by simp[ha],rfl,G,hu⟩ ?_
    rintro I2 ⟨G1,E⟩ t2 h2 ⟨e1,e2,o,S⟩ hI2;(try simp only at e1 e2 o)
    subst e1 e2;simp only[af]at z N ew⊢;refine ak (fun O=>?_) fun hge=>?_
    ·match E with
     | []=>simp only[aQ]at O;omega
     |g::E=>
      simp only[av]at z;have ew1:ac .i64 (((A.length+G1.length:Nat):Int)+1)=((A.length+G1.length+1:Nat):Int):=by rw[dL (by omega)];omega
      rw[ew1];have f1:A++(G1++(u::((g::E)++(V2++B))))=(A++G1)++u::(g::(E++(V2++B))):=by simp
      have f2:(A++G1)++u::(g::(E++(V2++B)))=(A++(G1++ [u]))++g::(E++(V2++B)):=by simp
      have f3:(A++G1)++g::(g::(E++(V2++B)))=(A++(G1++ [g]))++g::(E++(V2++B)):=by simp
      have f4:(A++(G1++ [g]))++u::(E++(V2++B))=A++((G1++ [g])++(u::(E++(V2++B)))):=by simp
      rw[f1]at o;have o3:=o;rw[f2]at o3;obtain⟨W,f,T⟩:=fF o3 (i:=A.length+G1.length+1) (by first|omega|(simp;done)|(simp;omega))
      obtain⟨a2,C,hx⟩:=fF o (i:=A.length+G1.length) (by first|omega|(simp;done)|(simp;omega))
      rw[f]at C;cases C;refine⟨⟨by omega,by omega⟩,W,f,g.1,T 0 _ rfl,g.2,T 1 _ rfl,jZ z0 g.1,T 2 _ rfl,⟨by omega,by omega⟩,W,f,u.1,hx 0 _ rfl,u.2,hx 1 _ rfl,jZ z0 u.1,hx 2 _ rfl,⟨by omega,by omega⟩,W,f,?_⟩
      refine lY o g f (by first|omega|(simp;done)|(simp;omega)) fun Y o5 k5=>⟨⟨by omega,by omega⟩,W,f,?_⟩
      rw[f3]at o5;refine lY o5 u f (by first|omega|(simp;done)|(simp;omega)) fun h6 o6 k6=>?_
      rw[f4]at o6;exact hI2 (G1++ [g],E) _ _ ⟨by simp;omega,by simp,o6,(S.trans k5 fun b N=>.inl N).trans k6 fun b N=>.inl N⟩ (by simp)
    ·have hG:E= []:=ax.1 (by omega)
     subst hG;simp only[bi,bZ]at o hst hk;refine hk h2 (G1++u::V2) ?_ hst S;have f1:A++((G1++u::V2)++B)=A++(G1++(u::(V2++B))):=by simp
     rw[f1];exact o
  refine CondP.intro (fun F=>?_) fun hmore2=>?_
  ·have F:V.length=1:=by have:=eq_of_beq F;omega
   match V,F with
   | [v],_=>
   simp only[aI]at z N;refine LoopP.ghost (fun(g:Nat×Nat) (t:Int×Int) X=>t.1=(g.1:Int)∧t.2=(g.2:Int)∧a≤g.1∧g.1≤g.2∧g.2≤m∧(∀q x,U[q]? =some x→a+q<g.1→lt v x=false)∧(∀q x,U[q]? =some x→g.2≤a+q→lt v x=true)∧OwnS (qk z0) 3 291 M X s (A++(U++([v]++B)))∧Upd M h X) (fun g=>g.2-g.1) (a,m)
    ⟨rfl,rfl,ai _,by(try simp only);omega,ai _,fun q x D h=>(by(try simp only at h);omega),fun q x D h=>(by have:=(bv.1 D).1;(try simp only at h);omega),ho,Upd.refl _ _⟩ ?_
   rintro I ⟨i,j⟩ ⟨ti,tj⟩ X ⟨e1,e2,hmi,H,hjb,J,L,G,hu⟩ hI;(try simp only at e1 e2 hmi H hjb J L)
   subst e1 e2;refine ak (fun O=>?_) fun hge=>?_
   ·have O:i<j:=by have:(i:Int)<(j:Int):=O;omega
    refine⟨by decide,?_⟩;simp only[Bd];rw[uw (by omega)];have hk1:(i+j)/2-a<U.length:=by omega
    obtain⟨W,f,hx⟩:=qt G (i:=(i+j)/2) (x:=U[(i+j)/2-a]) (F2 (k:=(i+j)/2-a) (by omega) (ag hk1));have f1:A++(U++([v]++B))=(A++U)++v::B:=by simp
    have o3:=G;rw[f1]at o3;obtain⟨a2,C,T⟩:=fF o3 (i:=m) (by first|omega|(simp;done)|(simp;omega))
    rw[f]at C;cases C;have hVk:U[(i+j)/2-a]? =some U[(i+j)/2-a]:=ag hk1;generalize U[(i+j)/2-a]=x at hx hVk;refine⟨⟨by omega,by omega⟩,W,f,v.1,T 0 _ rfl,v.2,T 1 _ rfl,jZ z0 v.1,T 2 _ rfl,⟨by omega,by omega⟩,W,f,x.1,hx 0 _ rfl,x.2,hx 1 _ rfl,jZ z0 x.1,hx 2 _ rfl,?_⟩
    refine hc.call v x (hc.step hu hi) fun Y e k5 he=>?_
    rw[he];have Z:=G.upd k5 fun _ _ h=>h
    have hu5:=hu.tr k5.wide;cases hxu:lt v x with
    |false=>
     refine aV.2 ?_;have ew:ac .i64 ((((i+j)/2:Nat):Int)+1)=(((i+j)/2+1:Nat):Int):=by rw[dL (by omega)];omega
     rw[ew];refine hI ((i+j)/2+1,j) _ _ ⟨rfl,rfl,by(try simp only);omega,by(try simp only);omega,hjb,fun q y D hqi=>?_,L,Z,hu5⟩ (by(try simp only);omega)
     exact w.ntr _ _ _ hxu (jb w sU (i:=q) (j:=(i+j)/2-a) (by(try simp only at hqi);omega) D hVk)
    |true=>
     refine ay.2 ?_;refine hI (i,(i+j)/2) _ _ ⟨rfl,rfl,hmi,by(try simp only);omega,by(try simp only);omega,J,fun q y D hqi=>?_,Z,hu5⟩ (by(try simp only);omega)
     have hle:=jb w sU (i:=(i+j)/2-a) (j:=q) (by(try simp only at hqi);omega) hVk D;cases hvy:lt v y with
     |true=>rfl
     |false=>rw[w.ntr _ _ _ hvy hle]at hxu;cases hxu
   ·have H:i=j:=by have:¬(i:Int)<(j:Int):=hge;omega
    subst H;obtain⟨U1,U2,rfl,hU1⟩:∃U1 U2,U=U1++U2∧U1.length=i-a:=⟨U.take (i-a),U.drop (i-a),(aN ..).symm,by rw[aL];omega⟩
    simp only[af]at z N hm;have lo1:∀x∈U1,lt v x=false:=fun x hx=>by
     obtain⟨q,D,e⟩:=ct hx;exact J q x (by rw[bw D,ag D,e]) (by omega)
    have hi1:∀x∈U2,lt v x=true:=fun x hx=>by
     obtain⟨q,D,e⟩:=ct hx;exact L (U1.length+q) x (by rw[aH (by omega),cy,ag D,e]) (by omega)
    have hst:=Ez w sU lo1 hi1;have f0:A++((U1++U2)++([v]++B))=A++(U1++(U2++(v::([]++B)))):=by simp
    rw[f0]at G;refine LoopP.ghost (fun(g:List (Pr)×List (Pr)) (t:Int) h2=>t=((A.length+U1.length+g.1.length:Nat):Int)∧U2=g.1++g.2∧OwnS (qk z0) 3 291 M h2 s (A++(U1++(g.1++(v::(g.2++B)))))∧Upd M h h2) (fun g=>g.1.length) (U2,[])
     ⟨by(try simp only);omega,by simp,G,hu⟩ ?_
    rintro I2 ⟨G1,E⟩ t2 h2 ⟨e1,e2,o,S⟩ hI2;(try simp only at e1 e2 o)
    subst e1 e2;simp only[af]at z N hm⊢;refine ak (fun hgt=>?_) fun hle=>?_
    ·rcases CD G1 with rfl|⟨G1',g,rfl⟩
     ·simp only[aQ]at hgt;omega
     simp only[af,aI]at z N hm hgt⊢;have ew1:ac .i64 (((A.length+U1.length+(G1'.length+1):Nat):Int)-1)=((A.length+U1.length+G1'.length:Nat):Int):=by rw[dL (by omega)];omega
     rw[ew1];have f1:A++(U1++((G1'++ [g])++(v::(E++B))))=(A++(U1++(G1'++ [g])))++v::(E++B):=by simp
     have f2:(A++(U1++(G1'++ [g])))++v::(E++B)=(A++(U1++G1'))++g::(v::(E++B)):=by simp
     have f3:(A++(U1++(G1'++ [g])))++g::(E++B)=(A++(U1++G1'))++g::(g::(E++B)):=by simp
     have f4:(A++(U1++G1'))++v::(g::(E++B))=A++(U1++(G1'++(v::((g::E)++B)))):=by simp
     rw[f1]at o;have o3:=o;rw[f2]at o3;obtain⟨W,f,T⟩:=fF o3 (i:=A.length+U1.length+G1'.length) (by first|omega|(simp;done)|(simp;omega))
     obtain⟨a2,C,hx⟩:=fF o (i:=A.length+U1.length+(G1'.length+1)) (by first|omega|(simp;done)|(simp;omega))
     rw[f]at C;cases C;refine⟨⟨by omega,by omega⟩,W,f,g.1,T 0 _ rfl,g.2,T 1 _ rfl,jZ z0 g.1,T 2 _ rfl,⟨by omega,by omega⟩,W,f,v.1,hx 0 _ rfl,v.2,hx 1 _ rfl,jZ z0 v.1,hx 2 _ rfl,⟨by omega,by omega⟩,W,f,?_⟩
     refine lY o g f (by first|omega|(simp;done)|(simp;omega)) fun Y o5 k5=>⟨⟨by omega,by omega⟩,W,f,?_⟩
     rw[f3]at o5;refine lY o5 v f (by first|omega|(simp;done)|(simp;omega)) fun h6 o6 k6=>?_
     rw[f4]at o6;exact hI2 (G1',g::E) _ _ ⟨rfl,by simp,o6,(S.trans k5 fun b N=>.inl N).trans k6 fun b N=>.inl N⟩ (by simp)
    ·have hG:G1= []:=ax.1 (by omega)
     subst hG;simp only[bZ]at o hst hk;refine hk h2 (U1++v::E) ?_ hst S;have f1:A++((U1++v::E)++B)=A++(U1++(v::(E++B))):=by simp
     rw[f1];exact o
  have hU2:2≤U.length:=by
   have:(U.length:Int)≠1:=by simpa using hmore
   omega
  have hV2:2≤V.length:=by
   have:(V.length:Int)≠1:=by simpa using hmore2
   omega
  refine⟨by decide,?_⟩;simp only[Bd];rw[uw (i:=a) (j:=b) (by omega)];obtain⟨d,hmid⟩:∃d,(a+b)/2=d:=⟨_,rfl⟩;rw[hmid];have em:ac .i64 ((d:Int)+(m:Int))=((d+m:Nat):Int):=by rw[dL (by omega)];omega
  rw[em];have ep:ac .i64 (((d+m:Nat):Int)-1)=((d+m-1:Nat):Int):=by rw[dL (by omega)];omega
  rw[ep];refine Join.intro (fun t X=>X=h∧∃s0 r0:Nat,t=((s0:Int),(r0:Int))∧a≤s0∧s0≤r0∧r0≤m∧r0≤d∧d+m≤b+s0∧(r0=d∨r0=m)∧(s0=a∨s0+b=d+m)) (fun Rj hRj=>?_) ?_
  ·refine ak (fun hgt=>?_) fun hle=>?_
   ·have es:ac .i64 (((d+m:Nat):Int)-(b:Int))=((d+m-b:Nat):Int):=by rw[dL (by omega)];omega
    rw[es];exact hRj _ _ ⟨rfl,_,_,rfl,by omega,by omega,by omega,by omega,by omega,by omega,by omega⟩
   ·exact hRj _ _ ⟨rfl,_,_,rfl,by omega,by omega,by omega,by omega,by omega,by omega,by omega⟩
  rintro t X ⟨rfl,s0,r0,rfl,hs0,hsr,hrm,hrd,hsb,hr0,hs00⟩;refine LoopP.ghost (fun(g:Nat×Nat) (t:Int×Int) h2=>t.1=(g.1:Int)∧t.2=(g.2:Int)∧s0≤g.1∧g.1≤g.2∧g.2≤r0∧(∀c x y,s0≤c→c<g.1→U[c-a]? =some x→V[d-1-c]? =some y→lt y x=false)∧(∀c x y,g.2≤c→c<r0→U[c-a]? =some x→V[d-1-c]? =some y→lt y x=true)∧OwnS (qk z0) 3 291 M h2 s (A++(U++(V++B)))∧Upd M X h2) (fun g=>g.2-g.1) (s0,r0)
   ⟨rfl,rfl,ai _,hsr,ai _,fun c x y h1 h2=>(by(try simp only at h2);omega),fun c x y h1 h2=>(by(try simp only at h1);omega),ho,Upd.refl _ _⟩ ?_
  rintro I ⟨i,j⟩ ⟨ti,tj⟩ h2 ⟨e1,e2,hsi,H,hjr,J,L,o,S⟩ hI;(try simp only at e1 e2 hsi H hjr J L)
  subst e1 e2;refine ak (fun O=>?_) fun hge=>?_
  ·have O:i<j:=by have:(i:Int)<(j:Int):=O;omega
   refine⟨by decide,?_⟩;rw[uw (i:=i) (j:=j) (by omega)];obtain⟨c,hcc⟩:∃c,(i+j)/2=c:=⟨_,rfl⟩;rw[hcc];have hci:i≤c:=by omega
   have hcj:c<j:=by omega
   have eq:ac .i64 (((d+m-1:Nat):Int)-(c:Int))=((d+m-1-c:Nat):Int):=by rw[dL (by omega)];omega
   rw[eq];have hk1:c-a<U.length:=by omega
   have hk2:d-1-c<V.length:=by omega
   obtain⟨W,f,hx⟩:=qt o (i:=c) (x:=U[c-a]) (F2 (k:=c-a) (by omega) (ag hk1));obtain⟨a2,C,T⟩:=qt o (i:=d+m-1-c) (x:=V[d-1-c]) (LL (k:=d-1-c) (by omega) (ag hk2));rw[f]at C;cases C;have hUc:U[c-a]? =some U[c-a]:=ag hk1;have hVc:V[d-1-c]? =some V[d-1-c]:=ag hk2;generalize U[c-a]=x at hx hUc
   generalize V[d-1-c]=y at T hVc;refine⟨⟨by omega,by omega⟩,W,f,y.1,T 0 _ rfl,y.2,T 1 _ rfl,jZ z0 y.1,T 2 _ rfl,⟨by omega,by omega⟩,W,f,x.1,hx 0 _ rfl,x.2,hx 1 _ rfl,jZ z0 x.1,hx 2 _ rfl,?_⟩
   refine hc.call y x (hc.step S hi) fun Y e k5 he=>?_
   rw[he];have Z:=o.upd k5 fun _ _ h=>h
   have hu5:=S.tr k5.wide;cases hyx:lt y x with
   |false=>
    refine aV.2 ?_;have ew:ac .i64 ((c:Int)+1)=((c+1:Nat):Int):=by rw[dL (by omega)];omega
    rw[ew];refine hI (c+1,j) _ _ ⟨rfl,rfl,by(try simp only);omega,by(try simp only);omega,hjr,fun c' x' y' h1 h2 hx' hy'=>?_,L,Z,hu5⟩ (by(try simp only);omega)
    (try simp only at h2)
    have q1:=jb w sU (i:=c'-a) (j:=c-a) (by omega) hx' hUc;have q2:=jb w sV (i:=d-1-c) (j:=d-1-c') (by omega) hVc hy';exact w.ntr _ _ _ (w.ntr _ _ _ q2 hyx) q1
   |true=>
    refine ay.2 ?_;refine hI (i,c) _ _ ⟨rfl,rfl,hsi,hci,by(try simp only);omega,J,fun c' x' y' h1 h2 hx' hy'=>?_,Z,hu5⟩ (by(try simp only);omega)
    (try simp only at h1)
    have q1:=jb w sU (i:=c-a) (j:=c'-a) (by omega) hUc hx';have q2:=jb w sV (i:=d-1-c') (j:=d-1-c) (by omega) hy' hVc;cases hyx':lt y' x' with
    |true=>rfl
    |false=>rw[w.ntr _ _ _ (w.ntr _ _ _ q2 hyx') q1]at hyx;cases hyx
  have H:i=j:=by have:¬(i:Int)<(j:Int):=hge;omega
  subst H;have en:ac .i64 (((d+m:Nat):Int)-(i:Int))=((d+m-i:Nat):Int):=by rw[dL (by omega)];omega
  (try simp only)
  rw[en];obtain⟨U1,U2,eU,hU1⟩:∃U1 U2,U=U1++U2∧U1.length=i-a:=⟨U.take (i-a),U.drop (i-a),(aN ..).symm,by rw[aL];omega⟩
  obtain⟨V1,V2,eV,hV1⟩:∃V1 V2,V=V1++V2∧V1.length=d-i:=⟨V.take (d-i),V.drop (d-i),(aN ..).symm,by rw[aL];omega⟩
  have c1:∀v∈V1,∀u∈U2,lt v u=true:=fun v hv u hu=>by
   obtain⟨q,D,e⟩:=ct hv;obtain⟨p,hp,e'⟩:=ct hu;have hlU:U.length=U1.length+U2.length:=by rw[eU,af]
   have n1:0<U2.length:=by omega
   have n2:d-1-i<V1.length:=by omega
   have gx:U[i-a]? =some (U2[0]'n1):=by rw[eU,aH (by omega),←hU1,di,ag (by omega)]
   have gy:V[d-1-i]? =some (V1[d-1-i]'n2):=by rw[eV,bw (by omega),ag (by omega)]
   have hQ:=L i _ _ (ai _) (by omega) gx gy;have q1:=jb w sU (i:=i-a) (j:=i-a+p) (by omega) gx (by rw[eU,aH (by omega),←hU1,cy,ag hp,e']);have q2:=jb w sV (i:=q) (j:=d-1-i) (by omega) (by rw[eV,bw D,ag D,e]) gy;cases hvu:lt v u with
   |true=>rfl
   |false=>rw[w.ntr _ _ _ (w.ntr _ _ _ q2 hvu) q1]at hQ;cases hQ
  have c2:∀u∈U1,∀v∈V2,lt v u=false:=fun u hu v hv=>by
   obtain⟨p,hp,e'⟩:=ct hu;obtain⟨q,D,e⟩:=ct hv;have hlV:V.length=V1.length+V2.length:=by rw[eV,af]
   have n1:i-1-a<U1.length:=by omega
   have n2:0<V2.length:=by omega
   have gx:U[i-1-a]? =some (U1[i-1-a]'n1):=by rw[eU,bw (by omega),ag (by omega)]
   have gy:V[d-1-(i-1)]? =some (V2[0]'n2):=by rw[eV,aH (by omega),show d-1-(i-1)-V1.length=0 by omega,ag (by omega)]
   have hQ:=J (i-1) _ _ (by omega) (by omega) gx gy;have q1:=jb w sU (i:=p) (j:=i-1-a) (by omega) (by rw[eU,bw hp,ag hp,e']) gx;have q2:=jb w sV (i:=d-i) (j:=d-i+q) (by omega) (by rw[eV,aH (by omega),hV1,di,ag (by omega)]) (by rw[eV,aH (by omega),hV1,cy,ag D,e])
   have gy2:V[d-i]? =some (V2[0]'n2):=by rw[eV,aH (by omega),hV1,di,ag (by omega)]
   exact w.ntr _ _ _ (w.ntr _ _ _ q2 hQ) q1
  subst eU eV;simp only[af]at z hU hV hl hm N hU2 hV2;have sA1:=sU.left;have sA2:=sU.right;have sB1:=sV.left;have sB2:=sV.right;refine Join.intro (fun _ h3=>OwnS (qk z0) 3 291 M h3 s (A++(U1++(V1++(U2++(V2++B)))))∧Upd M X h3) (fun Rj hRj=>?_) ?_
  ·have f1:A++((U1++U2)++((V1++V2)++B))=(A++U1)++(U2++(V1++(V2++B))):=by simp
   have f2:(A++U1)++(V1++(U2++(V2++B)))=A++(U1++(V1++(U2++(V2++B)))):=by simp
   refine Join.intro (fun t h3=>h3=h2∧(t=true↔0<U2.length∧0<V1.length)) (fun Rk hRk=>?_) ?_
   ·refine ak (fun h=>hRk _ _ ⟨rfl,?_⟩) fun h=>hRk _ _ ⟨rfl,⟨fun h=>(by cases h),fun h=>(by omega)⟩⟩
    rw[decide_eq_true_iff];constructor
    ·intro h;constructor<;>omega
    ·rintro⟨h1,h2⟩;omega
   ·rintro t h3 ⟨rfl,ht⟩
    cases t with
    |true=>
     obtain⟨p1,p2⟩:=ht.1 rfl;rw[f1]at o;refine aV.2 (Pb o hn p1 p2 (by rw[af];omega) (by rw[af];omega) (by rw[af];omega) fun h4 o4 k4=>hRj _ _ ⟨?_,S.trans k4 fun b N=>.inl N⟩)
     rw[f2]at o4;exact o4
    |false=>
     have hz:U2= []∨V1= []:=by
      rcases cU U2.length with h|h
      ·exact .inl (ax.1 h)
      ·rcases cU V1.length with h3|h3
       ·exact .inr (ax.1 h3)
       ·have:=ht.2 ⟨h,h3⟩;cases this
     refine ay.2 (hRj _ _ ⟨?_,S⟩);rw[f1]at o;rw[←f2];rcases hz with rfl|rfl
     ·exact o
     ·exact o
  rintro _ h3 ⟨o3,k3⟩;refine Join.intro (fun _ h4=>∃R1,OwnS (qk z0) 3 291 M h4 s (A++(R1++(U2++(V2++B))))∧St lt (U1++V1) R1∧Upd M X h4) (fun Rj hRj=>?_) ?_
  ·refine Join.intro (fun t h4=>h4=h3∧(t=true↔0<U1.length∧0<V1.length)) (fun Rk hRk=>?_) ?_
   ·refine ak (fun h=>hRk _ _ ⟨rfl,?_⟩) fun h=>hRk _ _ ⟨rfl,⟨fun h=>(by cases h),fun h=>(by omega)⟩⟩
    rw[decide_eq_true_iff];constructor
    ·intro h;constructor<;>omega
    ·rintro⟨h1,h2⟩;omega
   ·rintro t h4 ⟨rfl,ht⟩
    cases t with
    |true=>
     obtain⟨p1,p2⟩:=ht.1 rfl;refine aV.2 (ih (by omega) o3 (hc.step k3 hi) p1 p2 sA1 sB1 ha (by omega) (by omega) fun Y R1 o5 s5 k5=>hRj _ _ ⟨R1,o5,s5,k3.trans k5 fun b N=>.inl N⟩)
    |false=>
     refine ay.2 (hRj _ _ ⟨U1++V1,by simpa using o3,⟨Eqf.rfl _,?_⟩,k3⟩)
     rcases cU U1.length with h|h
     ·rw[ax.1 h];exact sB1
     ·rcases cU V1.length with Y|Y
      ·rw[ax.1 Y,bi];exact sA1
      ·have:=ht.2 ⟨h,Y⟩;cases this
  rintro _ h4 ⟨R1,o4,s1,k4⟩;have hR1:=s1.eqf.len;rw[af]at hR1;have fin:∀{Y:ae} {R2:List (Pr)},OwnS (qk z0) 3 291 M Y s (A++(R1++(R2++B)))→St lt (U2++V2) R2→Upd M X Y→K () Y:=fun{Y R2} o5 s2 k5=>by
   refine hk Y (R1++R2) ?_ (JC w sU sV c1 c2 s1 s2) k5;rw[aw];exact o5
  refine Join.intro (fun t Y=>Y=h4∧(t=true↔0<U2.length∧0<V2.length)) (fun Rk hRk=>?_) ?_
  ·refine ak (fun h=>hRk _ _ ⟨rfl,?_⟩) fun h=>hRk _ _ ⟨rfl,⟨fun h=>(by cases h),fun h=>(by omega)⟩⟩
   rw[decide_eq_true_iff];constructor
   ·intro h;constructor<;>omega
   ·rintro⟨h1,h2⟩;omega
  ·rintro t Y ⟨rfl,ht⟩
   have f1:A++(R1++(U2++(V2++B)))=(A++R1)++(U2++(V2++B)):=by simp
   cases t with
   |true=>
    obtain⟨p1,p2⟩:=ht.1 rfl;rw[f1]at o4;refine aV.2 (ih (by omega) o4 (hc.step k4 hi) p1 p2 sA2 sB2 (by rw[af];omega) (by rw[af];omega) (by rw[af];omega) fun h6 R2 o6 s6 k6=>fin (R2:=R2) ?_ s6 (k4.trans k6 fun b N=>.inl N))
    rw[aw]at o6;exact o6
   |false=>
    refine ay.2 (fin (R2:=U2++V2) (by simpa using o4) ⟨Eqf.rfl _,?_⟩ k4);rcases cU U2.length with h|h
    ·rw[ax.1 h];exact sB2
    ·rcases cU V2.length with h6|h6
     ·rw[ax.1 h6,bi];exact sA2
     ·have:=ht.2 ⟨h,h6⟩;cases this
theorem OU{lt:Pr→Pr→Bool}(w:WO lt){M:Nat→Prop}{Iv:ae→Prop}{i:Value}(hc:Cmp lt (qk z0) M Iv i){h:ae}{s:SliceV}{xs:List (Pr)}(ho:OwnS (qk z0) 3 291 M h s xs)(hi:Iv h)(hn:xs.length≤100000000){K:Unit→ae→Prop}
  (hk:∀c R,OwnS (qk z0) 3 291 M c s R→St lt xs R→Upd M h c→K () c):eJ 229 [.slice s.a s.len s.cap,i] K h:=by
 refine eM (fe s i) .nil Tryz.func229 Tryz.call229 ?_;unfold fe;refine eM (jl s (s.len:Int) i) oa Tryz.func258 Tryz.call258 ?_;unfold jl;have n:=ho.len;have j:s.len≤1000000000:=by omega
 refine LoopP.ghost (fun(g:List (Pr)×List (Pr)×List (Pr)) (t:Int×Int) c=>t.1=(g.2.1.length:Int)∧t.2=((g.2.1.length+20:Nat):Int)∧xs=g.1++g.2.2∧Eqf lt g.1 g.2.1∧Full lt 20 g.2.1∧OwnS (qk z0) 3 291 M c s (g.2.1++g.2.2)∧Upd M h c) (fun g=>g.2.2.length) ([],[],xs)
  ⟨rfl,rfl,rfl,Eqf.rfl _,Full.nil,ho,Upd.refl _ _⟩ ?_
 rintro I ⟨X,D,T⟩ ⟨ta,tb⟩ h1 ⟨m,U,J,e,o,V,k1⟩ hI;simp only at m U J e o V;subst m U J;have hXD:=e.len;simp only[af]at n hn;refine ak (fun hle=>?_) fun G=>?_
 ·obtain⟨S,T',rfl,hS⟩:∃S T',T=S++T'∧S.length=20:=⟨T.take 20,T.drop 20,(aN ..).symm,by rw[aL];omega⟩
  refine EP w hc V (hc.step k1 hi) j rfl (b:=D.length+20) (by omega) fun h2 R C u F=>?_
  have A:=u.eqf.len;simp only[af]at n hn;have L:ac .i64 (((D.length+20:Nat):Int)+20)=(((D++R).length+20:Nat):Int):=by rw[af,dL (by omega)];omega
  rw[L];refine hI (X++S,D++R,T') _ _ ⟨by simp only[af];omega,rfl,by simp,e.app u.eqf,o.app (by omega) u.srt,by rw[aw];exact C,k1.trans F fun b z=>.inl z⟩ (by simp only[af];omega)
 have Z:D++T=D++(T++ []):=by simp
 rw[Z]at V;refine EP w hc V (hc.step k1 hi) j rfl (b:=s.len) (by omega) fun h2 R C u F=>?_
 have A:=u.eqf.len;rw[bi]at C;have v:Eqf lt (X++T) (D++R):=e.app u.eqf;have H:Runs lt 20 (D++R):=o R (.last R (by omega) u.srt);have F:Upd M h h2:=k1.trans F fun b z=>.inl z
 generalize D++R=ys at C v H;generalize X++T=zs at v hk;have d:s.len=ys.length:=C.len;clear hI e o V Z G A;refine LoopP.ghost (fun(g:Nat×List (Pr)) (t:Int) c=>t=(g.1:Int)∧0<g.1∧g.1≤200000000∧Runs lt g.1 g.2∧Eqf lt zs g.2∧OwnS (qk z0) 3 291 M c s g.2∧Upd M h c) (fun g=>s.len-g.1) (20,ys)
  ⟨rfl,by simp,by simp,H,v,C,F⟩ ?_
 rintro I2 ⟨bs,ys⟩ t h3 ⟨m,hb0,hb1,hr,y,W,k3⟩ hI2;simp only at m hb0 hb1 hr y W;subst m;have d:s.len=ys.length:=W.len;refine ak (fun hlt=>?_) fun hge=>?_
 ·have hlt:bs<s.len:=by omega
  have e0:ac .i64 (2*(bs:Int))=((2*bs:Nat):Int):=by rw[dL (by omega)];omega
  rw[e0];refine LoopP.ghost (fun(g:List (Pr)×List (Pr)×List (Pr)) (t:Int×Int) c=>t.1=(g.2.1.length:Int)∧t.2=((g.2.1.length+2*bs:Nat):Int)∧ys=g.1++g.2.2∧Eqf lt g.1 g.2.1∧Full lt (2*bs) g.2.1∧Runs lt bs g.2.2∧OwnS (qk z0) 3 291 M c s (g.2.1++g.2.2)∧Upd M h c) (fun g=>g.2.2.length) ([],[],ys)
   ⟨rfl,by simp,rfl,Eqf.rfl _,Full.nil,hr,W,k3⟩ ?_
  rintro I3 ⟨Y,D,T⟩ ⟨ta,tb⟩ h4 ⟨m,U,J,e,o,f,O,N⟩ hI3;simp only at m U J e o f O;subst m U J;have hYD:=e.len;simp only[af]at d;have ea:ac .i64 ((D.length:Int)+(bs:Int))=((D.length+bs:Nat):Int):=by rw[dL (by omega)];omega
  simp only;rw[ea];refine ak (fun hle=>?_) fun G=>?_
  ·obtain⟨B1,T1,rfl,hB1,p,q⟩:=f.split (by omega)
   simp only[af]at d;obtain⟨B2,T2,rfl,hB2,sB2,hr2⟩:=q.split (by omega);simp only[af]at d;refine B6 w hc j (B1.length+B2.length) (ai _) O (hc.step N hi) (by omega) (by omega) p sB2 rfl (by omega) (by omega) fun Q R B x E=>?_
   have A:=x.eqf.len;rw[af]at A;have L:ac .i64 (((D.length+2*bs:Nat):Int)+((2*bs:Nat):Int))=(((D++R).length+2*bs:Nat):Int):=by rw[af,dL (by omega)];omega
   rw[L];refine hI3 (Y++(B1++B2),D++R,T2) _ _ ⟨by simp only[af];omega,rfl,by simp,e.app x.eqf,o.app (by omega) x.srt,hr2,by rw[aw];exact B,N.trans E fun b z=>.inl z⟩ (by simp only[af];omega)
  ·refine Join.intro (fun _ Q=>∃R,Eqf lt T R∧Runs lt (2*bs) R∧OwnS (qk z0) 3 291 M Q s (D++R)∧Upd M h Q) (fun Rj P=>?_) ?_
   ·refine ak (fun hmn=>?_) fun hmn=>?_
    ·obtain⟨B1,T1,rfl,hB1,p,q⟩:=f.split (by omega)
     simp only[af]at d;have Z:D++(B1++T1)=D++(B1++(T1++ [])):=by simp
     rw[Z]at O;refine B6 w hc j (B1.length+T1.length) (ai _) O (hc.step N hi) (by omega) (by omega) p (q.short (by omega)) rfl (by omega) (by omega) fun Q R B x E=>?_
     have A:=x.eqf.len;rw[af]at A;rw[bi]at B;exact P _ _ ⟨R,x.eqf,.last R (by omega) x.srt,B,N.trans E fun b z=>.inl z⟩
    ·exact P _ _ ⟨T,Eqf.rfl _,.last T (by omega) (f.short (by omega)),O,N⟩
   ·rintro _ Q ⟨R,q5,r5,B,E⟩
    have L:ac .i64 ((bs:Int)*2)=((2*bs:Nat):Int):=by rw[dL (by omega)];omega
    rw[L];exact hI2 (2*bs,D++R) _ _ ⟨rfl,by simp only;omega,by simp only;omega,o R r5,y.tr (e.app q5),B,E⟩ (by simp only;omega)
 ·exact hk h3 ys W ⟨y,hr.short (by omega)⟩ k3
end Go.Proofs
