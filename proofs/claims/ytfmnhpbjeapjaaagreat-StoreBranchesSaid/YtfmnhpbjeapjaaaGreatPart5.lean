/- A part of the proof that the named laws of this program answer true, whatever the input. -/
import Derived.Test.YtfmnhpbjeapjaaaGreatPart4
open List renaming length_append→ad,length_nil→bH,length_cons→az,length_eq_zero_iff→aD,append_nil→bG,nil_append→d4,take_append_drop→aY,length_take→aK,length_drop→aM,append_assoc→ax,mem_append→bq,mem_singleton→aw,mem_cons→au,length_singleton→bf,getElem?_eq_some_iff→aV,getElem?_eq_getElem→ag,getElem_of_mem→bU,getElem?_append_left→bL,getElem?_append_right→aH,mem_filter→cF,mem_cons_of_mem→aI,mem_cons_self→ay,pairwise_cons→aQ,mem_range→gH,flatMap_cons→bi,flatMap_append→bV,length_map→bd
open List.Pairwise renaming nil→dC
open Nat renaming eq_zero_or_pos→fI,le_refl→aq,add_sub_cancel_left→dT,sub_self→fO,zero_le→cj
namespace Go.Proofs
open Go Go.Lift
theorem qK{M:Nat→Prop}{h:ac}{s:SliceV}{A U C V B:List (Pr)}(E:OwnS eA 2 af M h s (A++(U++(C++(V++B)))))(hn:s.len≤1000000000)(e:U.length=V.length){a b:Nat}(f:a=A.length)(p:b=A.length+U.length+C.length){n:Nat}(x:n=U.length){w:Value}{K:Unit→ac→Prop}
  (O:∀h',OwnS eA 2 af M h' s (A++(V++(C++(U++B))))→Upd M h h'→K () h'):HC PG cM [.slice s.a s.len s.cap,.int .i64 a,.int .i64 b,.int .i64 n,w] [] K h:=by
 subst f p x;refine kT s A.length (A.length+U.length+C.length:Nat) U.length w ?_;unfold gg bB dw kB mB;have d:=E.len;simp only[ad]at d;refine LoopP.ghost (fun(g:(List (Pr)×List (Pr))×List (Pr)×List (Pr)) (t:Int) h'=>t=(g.1.1.length:Int)∧U=g.1.1++g.1.2∧V=g.2.1++g.2.2∧g.1.1.length=g.2.1.length∧OwnS eA 2 af M h' s (A++(g.2.1++(g.1.2++(C++(g.1.1++(g.2.2++B))))))∧Upd M h h') (fun g=>g.1.2.length) (([],U),[],V)
  ⟨rfl,rfl,rfl,rfl,E,Upd.refl _ _⟩ ?_
 rintro I ⟨⟨U1,U2⟩,V1,V2⟩ t h' ⟨L,H,G,P,c,N⟩ W;simp only at L H G P c;subst L H G;simp only[ad]at e d;refine aE (fun o=>?_) fun z=>?_
 ·simp only[ad]at o
  match U2,V2 with
  | [],_=>simp only[bH]at o;omega
  |_::_,[]=>simp only[bH,az]at e;omega
  |u::U2,v::V2=>
   simp only[az]at e d;simp only[ad,az];have y:IntKind.wrap .i64 (((A.length+(U1.length+(U2.length+1))+C.length:Nat):Int)+(U1.length:Int))=((A.length+(U1.length+(U2.length+1))+C.length+U1.length:Nat):Int):=by rw[gi (by omega)];omega
   have D:IntKind.wrap .i64 ((A.length:Int)+(U1.length:Int))=((A.length+U1.length:Nat):Int):=by rw[gi (by omega)];omega
   rw[y,D];have Y:A++(V1++((u::U2)++(C++(U1++((v::V2)++B)))))=(A++V1)++u::(U2++(C++(U1++(v::V2++B)))):=by simp
   have S:(A++V1)++u::(U2++(C++(U1++(v::V2++B))))=((A++V1)++u::(U2++(C++U1)))++v::(V2++B):=by simp
   have T:(A++V1)++v::(U2++(C++(U1++(v::V2++B))))=((A++V1)++v::(U2++(C++U1)))++v::(V2++B):=by simp
   have Z:((A++V1)++v::(U2++(C++U1)))++u::(V2++B)=A++((V1++ [v])++(U2++(C++((U1++ [u])++(V2++B))))):=by simp
   rw[Y]at c;obtain⟨a,f,m⟩:=jp c (i:=A.length+U1.length) (by rw[ad];omega);have j:=c;rw[S]at j;obtain⟨a',q,k⟩:=jp j (i:=A.length+(U1.length+(U2.length+1))+C.length+U1.length) (by simp only[ad,az];omega);rw[f]at q;cases q;refine⟨⟨by omega,by omega⟩,a,f,v.1,k 0 _ rfl,v.2,k 1 _ rfl,⟨by omega,by omega⟩,a,f,u.1,m 0 _ rfl,u.2,m 1 _ rfl,⟨by omega,by omega⟩,a,f,?_⟩
   refine qL c v f (by rw[ad];omega) fun Q J k2=>⟨⟨by omega,by omega⟩,a,f,?_⟩
   rw[T]at J;refine qL J u f (by first|omega|(simp;done)|(simp;omega)) fun h3 F X=>?_
   rw[Z]at F;rw[Ac (n:=U1.length+(U2.length+1)) (by omega) (by omega)];exact W ((U1++ [u],U2),V1++ [v],V2) _ _ ⟨by simp,by simp,by simp,by simp[P],F,(N.trans k2 fun b p=>.inl p).trans X fun b p=>.inl p⟩ (by simp)
 ·simp only[ad]at z
  have R:U2= []:=aD.1 (by omega);have Q:V2= []:=aD.1 (by rw[R,bH]at e;omega);subst R Q;simp only[bG,d4]at c O;exact O h' c N
theorem GM{M:Nat→Prop}{h:ac}{s:SliceV}{A U V B:List (Pr)}(Q:OwnS eA 2 af M h s (A++(U++(V++B))))(J:s.len≤1000000000)(X:0<U.length)(Y:0<V.length){a m b:Nat}(W:a=A.length)(hm:m=A.length+U.length)(o:b=A.length+U.length+V.length){z:Value}{K:Unit→ac→Prop}
  (hk:∀h',OwnS eA 2 af M h' s (A++(V++(U++B)))→Upd M h h'→K () h'):HC PG eZ [.slice s.a s.len s.cap,.int .i64 a,.int .i64 m,.int .i64 b,z] [] K h:=by
 subst W hm o;refine mc s A.length (A.length+U.length:Nat) (A.length+U.length+V.length:Nat) z ?_;unfold hJ;have u:=Q.len;simp only[ad]at u;have E:IntKind.wrap .i64 (((A.length+U.length:Nat):Int)-(A.length:Int))=(U.length:Int):=by rw[gi (by omega)];omega
 have D:IntKind.wrap .i64 (((A.length+U.length+V.length:Nat):Int)-((A.length+U.length:Nat):Int))=(V.length:Int):=by rw[gi (by omega)];omega
 rw[E,D];refine LoopP.ghost (fun(g:(List (Pr)×List (Pr))×List (Pr)×List (Pr)) (t:Int×Int) h'=>t.1=(g.1.2.length:Int)∧t.2=(g.2.1.length:Int)∧0<g.1.2.length∧0<g.2.1.length∧A.length+U.length=g.1.1.length+g.1.2.length∧g.1.1++(g.2.1++(g.1.2++g.2.2))=A++(V++(U++B))∧OwnS eA 2 af M h' s (g.1.1++(g.1.2++(g.2.1++g.2.2)))∧Upd M h h') (fun g=>g.1.2.length+g.2.1.length) ((A,U),V,B)
  ⟨rfl,rfl,X,Y,rfl,rfl,Q,Upd.refl _ _⟩ ?_
 rintro I ⟨⟨A',U'⟩,V',f⟩ ⟨ti,tj⟩ h' ⟨E,D,P,L,k,e,c,N⟩ S;simp only at E D P L k e c;subst E D;have d:=c.len;simp only[ad]at d;have G:((A.length+U.length:Nat):Int)=((A'.length+U'.length:Nat):Int):=by omega
 rw[G];have R:IntKind.wrap .i64 (((A'.length+U'.length:Nat):Int)-(U'.length:Int))=(A'.length:Int):=by rw[gi (by omega)];omega
 simp only;rw[R];refine CondP.intro (fun i=>?_) fun v=>?_
 ·have i:(U'.length:Int)≠(V'.length:Int):=by simpa using i
  refine aE (fun C=>?_) fun T=>?_
  ·
   have C:V'.length<U'.length:=by omega
   obtain⟨U1,U2,rfl,j⟩:∃U1 U2,U'=U1++U2∧U1.length=V'.length:=⟨U'.take V'.length,U'.drop V'.length,(aY ..).symm,by rw[aK];omega⟩
   simp only[ad]at C d k i R;have w:A'++((U1++U2)++(V'++f))=A'++(U1++(U2++(V'++f))):=by simp
   have Z:A'++(V'++(U2++(U1++f)))=(A'++V')++(U2++(U1++f)):=by simp
   rw[w]at c;refine qK c J j rfl (b:=A'.length+(U1++U2).length) (by simp only[ad];omega) (n:=V'.length) j.symm fun O p y=>?_
   rw[Z]at p;have q:IntKind.wrap .i64 (((U1++U2).length:Int)-(V'.length:Int))=(U2.length:Int):=by rw[ad,gi (by omega)];omega
   rw[q];refine S ((A'++V',U2),U1,f) _ _ ⟨rfl,by simp only;omega,by simp only;omega,by simp only;omega,by simp only[ad];omega,?_,p,N.trans y fun b o=>.inl o⟩ (by simp only[ad];omega)
   rw[←e];simp
  ·have H:U'.length<V'.length:=by omega
   obtain⟨V1,V2,rfl,j⟩:∃V1 V2,V'=V1++V2∧V2.length=U'.length:=⟨V'.take (V'.length-U'.length),V'.drop (V'.length-U'.length),(aY ..).symm,by rw[aM];omega⟩
   simp only[ad]at H d i;have q:IntKind.wrap .i64 ((IntKind.wrap .i64 (((A'.length+U'.length:Nat):Int)+((V1++V2).length:Int)))-(U'.length:Int))=((A'.length+U'.length+V1.length:Nat):Int):=by
    rw[ad,gi (x:=((A'.length+U'.length:Nat):Int)+((V1.length+V2.length:Nat):Int)) (by omega),gi (by omega)];omega
   rw[q];have w:A'++(U'++((V1++V2)++f))=A'++(U'++(V1++(V2++f))):=by simp
   rw[w]at c;refine qK c J j.symm rfl rfl rfl fun O p y=>?_
   have F:IntKind.wrap .i64 (((V1++V2).length:Int)-(U'.length:Int))=(V1.length:Int):=by rw[ad,gi (by omega)];omega
   rw[F];refine S ((A',V2),V1,U'++f) _ _ ⟨by simp only;omega,rfl,by simp only;omega,by simp only;omega,by simp only;omega,?_,p,N.trans y fun b o=>.inl o⟩ (by simp only[ad];omega)
   rw[←e];simp
 ·have v:(U'.length:Int)=(V'.length:Int):=by simpa using v
  have w:A'++(U'++(V'++f))=A'++(U'++([]++(V'++f))):=by simp
  rw[w]at c;refine qK c J (by omega) rfl (b:=A'.length+U'.length) (by simp) rfl fun O p y=>?_
  rw[d4,e]at p;exact hk O p (N.trans y fun b o=>.inl o)
theorem yY{lt:Pr→Pr→Bool}(w:WO lt){M:Nat→Prop}{Iv:ac→Prop}{D:Value}(hc:Cmp lt eA M Iv D){h:ac}{s:SliceV}{A S B:List (Pr)}(ho:OwnS eA 2 af M h s (A++(S++B)))(hi:Iv h)(hn:s.len≤1000000000){a b:Nat}(c:a=A.length)(J:b=A.length+S.length){K:Unit→ac→Prop}
  (hk:∀h' R,OwnS eA 2 af M h' s (A++(R++B))→St lt S R→Upd M h h'→K () h'):HC PG cZ [.slice s.a s.len s.cap,.int .i64 a,.int .i64 b,D] [] K h:=by
 subst c J;refine jB s A.length (A.length+S.length:Nat) D ?_;unfold fK bB dw bD kB pf rc mB;have k:=ho.len;simp only[ad]at k;have ea:IntKind.wrap .i64 ((A.length:Int)+1)=((A.length+1:Nat):Int):=by rw[gi (by omega)];omega
 rw[ea];refine LoopP.ghost (fun(g:List (Pr)×List (Pr)×List (Pr)) (t:Int) h'=>t=((A.length+max 1 g.1.length:Nat):Int)∧S=g.1++g.2.2∧(g.1= []→g.2.2= [])∧St lt g.1 g.2.1∧OwnS eA 2 af M h' s (A++(g.2.1++(g.2.2++B)))∧Upd M h h') (fun g=>g.2.2.length) (S.take 1,S.take 1,S.drop 1)
  ⟨?_,(aY ..).symm,fun e=>?_,⟨Eqf.rfl _,?_⟩,by rw[←ax (S.take 1),aY];exact ho,Upd.refl _ _⟩ ?_
 ·simp only[aK];omega
 ·have:=congrArg List.length e
  simp only[aK,bH]at this;exact aD.1 (by simp only[aM];omega)
 ·match S with
  | []=>exact Srt.nil
  |x::S=>exact Srt.one x
 rintro I ⟨S1,R1,T⟩ t h' ⟨O,N,m,f,p,hu⟩ hI;simp only at O N m f p;subst O N;simp only[ad]at k;have hR1:=f.eqf.len;refine aE (fun C=>?_) fun hge=>?_
 ·simp only[ad]at C
  have hS1:S1≠[]:=fun e=>by
   have:=m e;subst e;subst this;simp only[bH]at C;omega
  have hS1l:0<S1.length:=List.length_pos_iff.2 hS1;match T with
  | []=>simp only[bH]at C;omega
  |x::T=>
   have P:A.length+max 1 S1.length=A.length+S1.length:=by omega
   rw[P];refine LoopP.ghost (fun(g:List (Pr)×List (Pr)) (t:Int) h2=>t=((A.length+g.1.length:Nat):Int)∧R1=g.1++g.2∧(∀y∈g.2,lt x y=true)∧OwnS eA 2 af M h2 s (A++(g.1++(x::(g.2++(T++B)))))∧Upd M h h2) (fun g=>g.1.length) (R1,[])
    ⟨by simp only;omega,by simp,fun y n=>(by cases n),by simpa using p,hu⟩ ?_
   rintro I2 ⟨L,G⟩ t2 h2 ⟨O,N,hG,d,v⟩ W;simp only at O N hG d;subst O N;simp only[ad]at hR1;simp only[az]at k;refine Join.intro (fun t Y=>Upd M h Y∧OwnS eA 2 af M Y s (A++(L++(x::(G++(T++B)))))∧(t=true→∃L' y,L=L'++ [y]∧lt x y=true)∧(t=false→∀y∈L,lt x y=false)) (fun Rj Q=>?_) ?_
   ·refine aE (fun hgt=>?_) fun hle=>?_
    ·rcases D7 L with rfl|⟨L',y,rfl⟩
     ·simp only[bH]at hgt;omega
     have o:(L'++ [y]).length=L'.length+1:=by simp
     have H:IntKind.wrap .i64 (((A.length+(L'++ [y]).length:Nat):Int)-1)=((A.length+L'.length:Nat):Int):=by rw[o,gi (by omega)];omega
     rw[H];have U:A++((L'++ [y])++(x::(G++(T++B))))=(A++L')++y::(x::(G++(T++B))):=by simp
     have X:A++((L'++ [y])++(x::(G++(T++B))))=(A++(L'++ [y]))++x::(G++(T++B)):=by simp
     have o3:=d;have E:=d;rw[U]at o3;rw[X]at E;obtain⟨a,c,n⟩:=jp o3 (i:=A.length+L'.length) (by first|omega|(simp;done)|(simp;omega))
     obtain⟨a',j,hx⟩:=jp E (i:=A.length+(L'++ [y]).length) (by first|omega|(simp;done)|(simp;omega))
     rw[c]at j;cases j;refine⟨⟨by omega,by omega⟩,a,c,x.1,hx 0 _ rfl,x.2,hx 1 _ rfl,⟨by omega,by omega⟩,a,c,y.1,n 0 _ rfl,y.2,n 1 _ rfl,?_⟩
     refine hc.call x y (hc.step v hi) fun h5 e V he=>?_
     rw[he];have Z:=d.upd V fun _ _ h=>h
     refine Q _ _ ⟨v.tr V.wide,Z,fun h=>⟨L',y,rfl,h⟩,fun h z u=>?_⟩
     have hs:=f.srt.left;rcases bq.1 u with u|u
     ·exact w.ntr x y z h (hs.cross z u y (aw.2 rfl))
     ·rw[aw.1 u];exact h
    ·have hL:L= []:=aD.1 (by omega)
     exact Q _ _ ⟨v,d,fun h=>(by cases h),fun _ y n=>(by rw[hL]at n;cases n)⟩
   ·rintro t3 Y ⟨F,q,ht,hf⟩
    cases t3 with
    |true=>
     obtain⟨L',y,rfl,hxy⟩:=ht rfl;have o:(L'++ [y]).length=L'.length+1:=by simp
     refine aB.2 ?_;have H:IntKind.wrap .i64 (((A.length+(L'++ [y]).length:Nat):Int)-1)=((A.length+L'.length:Nat):Int):=by rw[o,gi (by omega)];omega
     rw[H];have U:A++((L'++ [y])++(x::(G++(T++B))))=(A++L')++y::(x::(G++(T++B))):=by simp
     have X:(A++L')++y::(x::(G++(T++B)))=(A++(L'++ [y]))++x::(G++(T++B)):=by simp
     have f3:(A++(L'++ [y]))++y::(G++(T++B))=(A++L')++y::(y::(G++(T++B))):=by simp
     have f4:(A++L')++x::(y::(G++(T++B)))=A++(L'++(x::((y::G)++(T++B)))):=by simp
     rw[U]at q;have E:=q;rw[X]at E;obtain⟨a,c,n⟩:=jp q (i:=A.length+L'.length) (by first|omega|(simp;done)|(simp;omega))
     obtain⟨a',j,hx⟩:=jp E (i:=A.length+(L'++ [y]).length) (by first|omega|(simp;done)|(simp;omega))
     rw[c]at j;cases j;refine⟨⟨by omega,by omega⟩,a,c,y.1,n 0 _ rfl,y.2,n 1 _ rfl,⟨by omega,by omega⟩,a,c,x.1,hx 0 _ rfl,x.2,hx 1 _ rfl,⟨by omega,by omega⟩,a,c,?_⟩
     refine qL E y c (by first|omega|(simp;done)|(simp;omega)) fun h5 o5 V=>⟨⟨by omega,by omega⟩,a,c,?_⟩
     rw[f3]at o5;refine qL o5 x c (by first|omega|(simp;done)|(simp;omega)) fun h6 o6 k6=>?_
     rw[f4]at o6;refine W (L',y::G) _ _ ⟨rfl,by simp,fun z u=>?_,o6,(F.trans V fun b J=>.inl J).trans k6 fun b J=>.inl J⟩ (by simp only[o];omega)
     rcases au.1 u with rfl|u
     ·exact hxy
     ·exact hG z u
    |false=>
     refine ak.2 ?_;have H:IntKind.wrap .i64 (((A.length+S1.length:Nat):Int)+1)=((A.length+max 1 (S1.length+1):Nat):Int):=by rw[gi (by omega)];omega
     rw[H];refine hI (S1++ [x],L++x::G,T) _ _ ⟨by simp,by simp,fun e=>(by simp at e),KD w f (hf rfl) hG,?_,F⟩ (by simp)
     have U:A++((L++x::G)++(T++B))=A++(L++(x::(G++(T++B)))):=by simp
     rw[U];exact q
 ·simp only[ad]at hge
  have hT:T= []:=by
   rcases fI S1.length with h0|h0
   ·exact m (aD.1 h0)
   ·exact aD.1 (by omega)
  subst hT;rw[d4]at p;rw[bG]at hk;exact hk h' R1 p f hu
theorem ws{lt:Pr→Pr→Bool}(w:WO lt){M:Nat→Prop}{Iv:ac→Prop}{cmp:Value}(hc:Cmp lt eA M Iv cmp){s:SliceV}(hn:s.len≤1000000000):∀(n:Nat) {h:ac} {A U V B:List (Pr)},U.length+V.length≤n→OwnS eA 2 af M h s (A++(U++(V++B)))→Iv h→0<U.length→0<V.length→Srt lt U→Srt lt V→∀{a m b:Nat},a=A.length→m=A.length+U.length→b=A.length+U.length+V.length→∀{K:Unit→ac→Prop},
  (∀h' R,OwnS eA 2 af M h' s (A++(R++B))→St lt (U++V) R→Upd M h h'→K () h')→HC PG co [.slice s.a s.len s.cap,.int .i64 a,.int .i64 m,.int .i64 b,cmp] [] K h:=by
 intro n;induction n with
 |zero=>intro h A U V B hl _ _ hU;omega
 |succ n ih=>
  intro h A U V B hl ho hi hU hV sU sV a m b ha hm O K hk;refine lF s a m b cmp ?_;unfold gE bB dw bD kB pf rc mB;have z:=ho.len;simp only[ad]at z;have e1:IntKind.wrap .i64 ((m:Int)-(a:Int))=(U.length:Int):=by rw[gi (by omega)];omega
  have e2:IntKind.wrap .i64 ((b:Int)-(m:Int))=(V.length:Int):=by rw[gi (by omega)];omega
  rw[e1,e2];refine CondP.intro (fun G=>?_) fun hmore=>?_
  ·have G:U.length=1:=by have:=eq_of_beq G;omega
   match U,G with
   | [u],_=>
   simp only[bf]at z hm O;refine LoopP.ghost (fun(g:Nat×Nat) (t:Int×Int) h'=>t.1=(g.1:Int)∧t.2=(g.2:Int)∧m≤g.1∧g.1≤g.2∧g.2≤b∧(∀q x,V[q]? =some x→m+q<g.1→lt x u=true)∧(∀q x,V[q]? =some x→g.2≤m+q→lt x u=false)∧OwnS eA 2 af M h' s (A++([u]++(V++B)))∧Upd M h h') (fun g=>g.2-g.1) (m,b)
    ⟨rfl,rfl,aq _,by simp only;omega,aq _,fun q x D h=>(by simp only at h;omega),fun q x D h=>(by have:=(aV.1 D).1;simp only at h;omega),ho,Upd.refl _ _⟩ ?_
   rintro I ⟨i,j⟩ ⟨ti,tj⟩ h' ⟨e1,e2,hmi,J,hjb,N,F,L,hu⟩ hI;simp only at e1 e2 hmi J hjb N F;subst e1 e2;refine aE (fun T=>?_) fun hge=>?_
   ·have T:i<j:=by have:(i:Int)<(j:Int):=T;omega
    refine⟨by decide,?_⟩;simp only[Bd];rw[zY (by omega)];have Y:(i+j)/2-m<V.length:=by omega
    have hk0:(i+j)/2=A.length+1+((i+j)/2-m):=by omega
    obtain⟨W,f,hx⟩:=tU L (i:=(i+j)/2) (x:=V[(i+j)/2-m]) (Lj (U:= [u]) (k:=(i+j)/2-m) (by simp only[bf];omega) (ag Y));obtain⟨a2,C,hy⟩:=jp (P:=A) (x:=u) (Q:=V++B) L ha;rw[f]at C;cases C;have hVk:V[(i+j)/2-m]? =some V[(i+j)/2-m]:=ag Y;generalize V[(i+j)/2-m]=x at hx hVk;refine⟨⟨by omega,by omega⟩,W,f,x.1,hx 0 _ rfl,x.2,hx 1 _ rfl,⟨by omega,by omega⟩,W,f,u.1,hy 0 _ rfl,u.2,hy 1 _ rfl,?_⟩
    refine hc.call x u (hc.step hu hi) fun X e k5 he=>?_
    rw[he];have ho5:=L.upd k5 fun _ _ h=>h
    have hu5:=hu.tr k5.wide;cases hxu:lt x u with
    |true=>
     refine aB.2 ?_;have ew:IntKind.wrap .i64 ((((i+j)/2:Nat):Int)+1)=(((i+j)/2+1:Nat):Int):=by rw[gi (by omega)];omega
     rw[ew];refine hI ((i+j)/2+1,j) _ _ ⟨rfl,rfl,by simp only;omega,by simp only;omega,hjb,fun q y D hqi=>?_,F,ho5,hu5⟩ (by simp only;omega)
     have hle:=oa w sV (i:=q) (j:=(i+j)/2-m) (by simp only at hqi;omega) D hVk;cases hyu:lt y u with
     |true=>rfl
     |false=>rw[w.ntr _ _ _ hle hyu]at hxu;cases hxu
    |false=>
     refine ak.2 ?_;refine hI (i,(i+j)/2) _ _ ⟨rfl,rfl,hmi,by simp only;omega,by simp only;omega,N,fun q y D hqi=>?_,ho5,hu5⟩ (by simp only;omega)
     have hle:=oa w sV (i:=(i+j)/2-m) (j:=q) (by simp only at hqi;omega) hVk D;exact w.ntr _ _ _ hle hxu
   ·have J:i=j:=by have:¬(i:Int)<(j:Int):=hge;omega
    subst J;obtain⟨V1,V2,rfl,hV1⟩:∃V1 V2,V=V1++V2∧V1.length=i-m:=⟨V.take (i-m),V.drop (i-m),(aY ..).symm,by rw[aK];omega⟩
    simp only[ad]at z O;have lo1:∀x∈V1,lt x u=true:=fun x hx=>by
     obtain⟨q,D,e⟩:=bU hx;exact N q x (by rw[bL D,ag D,e]) (by omega)
    have hi1:∀x∈V2,lt x u=false:=fun x hx=>by
     obtain⟨q,D,e⟩:=bU hx;exact F (V1.length+q) x (by rw[aH (by omega),dT,ag D,e]) (by omega)
    have hst:=Dz w sV lo1 hi1;have f0:A++([u]++((V1++V2)++B))=A++([]++(u::(V1++(V2++B)))):=by simp
    rw[f0]at L;have ew:IntKind.wrap .i64 ((i:Int)-1)=((A.length+V1.length:Nat):Int):=by rw[gi (by omega)];omega
    rw[ew];refine LoopP.ghost (fun(g:List (Pr)×List (Pr)) (t:Int) H=>t=((A.length+g.1.length:Nat):Int)∧V1=g.1++g.2∧OwnS eA 2 af M H s (A++(g.1++(u::(g.2++(V2++B)))))∧Upd M h H) (fun g=>g.2.length) ([],V1)
     ⟨by simp[ha],rfl,L,hu⟩ ?_
    rintro I2 ⟨G1,E⟩ t2 H ⟨e1,e2,o,S⟩ hI2;simp only at e1 e2 o;subst e1 e2;simp only[ad]at z O ew⊢;refine aE (fun T=>?_) fun hge=>?_
    ·match E with
     | []=>simp only[bH]at T;omega
     |g::E=>
      simp only[az]at z;have ew1:IntKind.wrap .i64 (((A.length+G1.length:Nat):Int)+1)=((A.length+G1.length+1:Nat):Int):=by rw[gi (by omega)];omega
      rw[ew1];have f1:A++(G1++(u::((g::E)++(V2++B))))=(A++G1)++u::(g::(E++(V2++B))):=by simp
      have f2:(A++G1)++u::(g::(E++(V2++B)))=(A++(G1++ [u]))++g::(E++(V2++B)):=by simp
      have f3:(A++G1)++g::(g::(E++(V2++B)))=(A++(G1++ [g]))++g::(E++(V2++B)):=by simp
      have f4:(A++(G1++ [g]))++u::(E++(V2++B))=A++((G1++ [g])++(u::(E++(V2++B)))):=by simp
      rw[f1]at o;have o3:=o;rw[f2]at o3;obtain⟨W,f,hy⟩:=jp o3 (i:=A.length+G1.length+1) (by first|omega|(simp;done)|(simp;omega))
      obtain⟨a2,C,hx⟩:=jp o (i:=A.length+G1.length) (by first|omega|(simp;done)|(simp;omega))
      rw[f]at C;cases C;refine⟨⟨by omega,by omega⟩,W,f,g.1,hy 0 _ rfl,g.2,hy 1 _ rfl,⟨by omega,by omega⟩,W,f,u.1,hx 0 _ rfl,u.2,hx 1 _ rfl,⟨by omega,by omega⟩,W,f,?_⟩
      refine qL o g f (by first|omega|(simp;done)|(simp;omega)) fun X o5 k5=>⟨⟨by omega,by omega⟩,W,f,?_⟩
      rw[f3]at o5;refine qL o5 u f (by first|omega|(simp;done)|(simp;omega)) fun h6 o6 k6=>?_
      rw[f4]at o6;exact hI2 (G1++ [g],E) _ _ ⟨by simp;omega,by simp,o6,(S.trans k5 fun b O=>.inl O).trans k6 fun b O=>.inl O⟩ (by simp)
    ·have hG:E= []:=aD.1 (by omega)
     subst hG;simp only[bG,d4]at o hst hk;refine hk H (G1++u::V2) ?_ hst S;have f1:A++((G1++u::V2)++B)=A++(G1++(u::(V2++B))):=by simp
     rw[f1];exact o
  refine CondP.intro (fun G=>?_) fun hmore2=>?_
  ·have G:V.length=1:=by have:=eq_of_beq G;omega
   match V,G with
   | [v],_=>
   simp only[bf]at z O;refine LoopP.ghost (fun(g:Nat×Nat) (t:Int×Int) h'=>t.1=(g.1:Int)∧t.2=(g.2:Int)∧a≤g.1∧g.1≤g.2∧g.2≤m∧(∀q x,U[q]? =some x→a+q<g.1→lt v x=false)∧(∀q x,U[q]? =some x→g.2≤a+q→lt v x=true)∧OwnS eA 2 af M h' s (A++(U++([v]++B)))∧Upd M h h') (fun g=>g.2-g.1) (a,m)
    ⟨rfl,rfl,aq _,by simp only;omega,aq _,fun q x D h=>(by simp only at h;omega),fun q x D h=>(by have:=(aV.1 D).1;simp only at h;omega),ho,Upd.refl _ _⟩ ?_
   rintro I ⟨i,j⟩ ⟨ti,tj⟩ h' ⟨e1,e2,hmi,J,hjb,N,F,L,hu⟩ hI;simp only at e1 e2 hmi J hjb N F;subst e1 e2;refine aE (fun T=>?_) fun hge=>?_
   ·have T:i<j:=by have:(i:Int)<(j:Int):=T;omega
    refine⟨by decide,?_⟩;simp only[Bd];rw[zY (by omega)];have Y:(i+j)/2-a<U.length:=by omega
    obtain⟨W,f,hx⟩:=tU L (i:=(i+j)/2) (x:=U[(i+j)/2-a]) (Iy (k:=(i+j)/2-a) (by omega) (ag Y));have f1:A++(U++([v]++B))=(A++U)++v::B:=by simp
    have o3:=L;rw[f1]at o3;obtain⟨a2,C,hy⟩:=jp o3 (i:=m) (by first|omega|(simp;done)|(simp;omega))
    rw[f]at C;cases C;have hVk:U[(i+j)/2-a]? =some U[(i+j)/2-a]:=ag Y;generalize U[(i+j)/2-a]=x at hx hVk;refine⟨⟨by omega,by omega⟩,W,f,v.1,hy 0 _ rfl,v.2,hy 1 _ rfl,⟨by omega,by omega⟩,W,f,x.1,hx 0 _ rfl,x.2,hx 1 _ rfl,?_⟩
    refine hc.call v x (hc.step hu hi) fun X e k5 he=>?_
    rw[he];have ho5:=L.upd k5 fun _ _ h=>h
    have hu5:=hu.tr k5.wide;cases hxu:lt v x with
    |false=>
     refine aB.2 ?_;have ew:IntKind.wrap .i64 ((((i+j)/2:Nat):Int)+1)=(((i+j)/2+1:Nat):Int):=by rw[gi (by omega)];omega
     rw[ew];refine hI ((i+j)/2+1,j) _ _ ⟨rfl,rfl,by simp only;omega,by simp only;omega,hjb,fun q y D hqi=>?_,F,ho5,hu5⟩ (by simp only;omega)
     exact w.ntr _ _ _ hxu (oa w sU (i:=q) (j:=(i+j)/2-a) (by simp only at hqi;omega) D hVk)
    |true=>
     refine ak.2 ?_;refine hI (i,(i+j)/2) _ _ ⟨rfl,rfl,hmi,by simp only;omega,by simp only;omega,N,fun q y D hqi=>?_,ho5,hu5⟩ (by simp only;omega)
     have hle:=oa w sU (i:=(i+j)/2-a) (j:=q) (by simp only at hqi;omega) hVk D;cases hvy:lt v y with
     |true=>rfl
     |false=>rw[w.ntr _ _ _ hvy hle]at hxu;cases hxu
   ·have J:i=j:=by have:¬(i:Int)<(j:Int):=hge;omega
    subst J;obtain⟨U1,U2,rfl,hU1⟩:∃U1 U2,U=U1++U2∧U1.length=i-a:=⟨U.take (i-a),U.drop (i-a),(aY ..).symm,by rw[aK];omega⟩
    simp only[ad]at z O hm;have lo1:∀x∈U1,lt v x=false:=fun x hx=>by
     obtain⟨q,D,e⟩:=bU hx;exact N q x (by rw[bL D,ag D,e]) (by omega)
    have hi1:∀x∈U2,lt v x=true:=fun x hx=>by
     obtain⟨q,D,e⟩:=bU hx;exact F (U1.length+q) x (by rw[aH (by omega),dT,ag D,e]) (by omega)
    have hst:=EN w sU lo1 hi1;have f0:A++((U1++U2)++([v]++B))=A++(U1++(U2++(v::([]++B)))):=by simp
    rw[f0]at L;refine LoopP.ghost (fun(g:List (Pr)×List (Pr)) (t:Int) H=>t=((A.length+U1.length+g.1.length:Nat):Int)∧U2=g.1++g.2∧OwnS eA 2 af M H s (A++(U1++(g.1++(v::(g.2++B)))))∧Upd M h H) (fun g=>g.1.length) (U2,[])
     ⟨by simp only;omega,by simp,L,hu⟩ ?_
    rintro I2 ⟨G1,E⟩ t2 H ⟨e1,e2,o,S⟩ hI2;simp only at e1 e2 o;subst e1 e2;simp only[ad]at z O hm⊢;refine aE (fun hgt=>?_) fun hle=>?_
    ·rcases D7 G1 with rfl|⟨G1',g,rfl⟩
     ·simp only[bH]at hgt;omega
     simp only[ad,bf]at z O hm hgt⊢;have ew1:IntKind.wrap .i64 (((A.length+U1.length+(G1'.length+1):Nat):Int)-1)=((A.length+U1.length+G1'.length:Nat):Int):=by rw[gi (by omega)];omega
     rw[ew1];have f1:A++(U1++((G1'++ [g])++(v::(E++B))))=(A++(U1++(G1'++ [g])))++v::(E++B):=by simp
     have f2:(A++(U1++(G1'++ [g])))++v::(E++B)=(A++(U1++G1'))++g::(v::(E++B)):=by simp
     have f3:(A++(U1++(G1'++ [g])))++g::(E++B)=(A++(U1++G1'))++g::(g::(E++B)):=by simp
     have f4:(A++(U1++G1'))++v::(g::(E++B))=A++(U1++(G1'++(v::((g::E)++B)))):=by simp
     rw[f1]at o;have o3:=o;rw[f2]at o3;obtain⟨W,f,hy⟩:=jp o3 (i:=A.length+U1.length+G1'.length) (by first|omega|(simp;done)|(simp;omega))
     obtain⟨a2,C,hx⟩:=jp o (i:=A.length+U1.length+(G1'.length+1)) (by first|omega|(simp;done)|(simp;omega))
     rw[f]at C;cases C;refine⟨⟨by omega,by omega⟩,W,f,g.1,hy 0 _ rfl,g.2,hy 1 _ rfl,⟨by omega,by omega⟩,W,f,v.1,hx 0 _ rfl,v.2,hx 1 _ rfl,⟨by omega,by omega⟩,W,f,?_⟩
     refine qL o g f (by first|omega|(simp;done)|(simp;omega)) fun X o5 k5=>⟨⟨by omega,by omega⟩,W,f,?_⟩
     rw[f3]at o5;refine qL o5 v f (by first|omega|(simp;done)|(simp;omega)) fun h6 o6 k6=>?_
     rw[f4]at o6;exact hI2 (G1',g::E) _ _ ⟨rfl,by simp,o6,(S.trans k5 fun b O=>.inl O).trans k6 fun b O=>.inl O⟩ (by simp)
    ·have hG:G1= []:=aD.1 (by omega)
     subst hG;simp only[d4]at o hst hk;refine hk H (U1++v::E) ?_ hst S;have f1:A++((U1++v::E)++B)=A++(U1++(v::(E++B))):=by simp
     rw[f1];exact o
  have hU2:2≤U.length:=by
   have:(U.length:Int)≠1:=by simpa using hmore
   omega
  have hV2:2≤V.length:=by
   have:(V.length:Int)≠1:=by simpa using hmore2
   omega
  refine⟨by decide,?_⟩;simp only[Bd];rw[zY (i:=a) (j:=b) (by omega)];obtain⟨d,hmid⟩:∃d,(a+b)/2=d:=⟨_,rfl⟩;rw[hmid];have em:IntKind.wrap .i64 ((d:Int)+(m:Int))=((d+m:Nat):Int):=by rw[gi (by omega)];omega
  rw[em];have ep:IntKind.wrap .i64 (((d+m:Nat):Int)-1)=((d+m-1:Nat):Int):=by rw[gi (by omega)];omega
  rw[ep];refine Join.intro (fun t h'=>h'=h∧∃s0 r0:Nat,t=((s0:Int),(r0:Int))∧a≤s0∧s0≤r0∧r0≤m∧r0≤d∧d+m≤b+s0∧(r0=d∨r0=m)∧(s0=a∨s0+b=d+m)) (fun Rj hRj=>?_) ?_
  ·refine aE (fun hgt=>?_) fun hle=>?_
   ·have es:IntKind.wrap .i64 (((d+m:Nat):Int)-(b:Int))=((d+m-b:Nat):Int):=by rw[gi (by omega)];omega
    rw[es];exact hRj _ _ ⟨rfl,_,_,rfl,by omega,by omega,by omega,by omega,by omega,by omega,by omega⟩
   ·exact hRj _ _ ⟨rfl,_,_,rfl,by omega,by omega,by omega,by omega,by omega,by omega,by omega⟩
  rintro t h' ⟨rfl,s0,r0,rfl,hs0,hsr,hrm,hrd,hsb,hr0,hs00⟩;refine LoopP.ghost (fun(g:Nat×Nat) (t:Int×Int) H=>t.1=(g.1:Int)∧t.2=(g.2:Int)∧s0≤g.1∧g.1≤g.2∧g.2≤r0∧(∀c x y,s0≤c→c<g.1→U[c-a]? =some x→V[d-1-c]? =some y→lt y x=false)∧(∀c x y,g.2≤c→c<r0→U[c-a]? =some x→V[d-1-c]? =some y→lt y x=true)∧OwnS eA 2 af M H s (A++(U++(V++B)))∧Upd M h' H) (fun g=>g.2-g.1) (s0,r0)
   ⟨rfl,rfl,aq _,hsr,aq _,fun c x y h1 H=>(by simp only at H;omega),fun c x y h1 H=>(by simp only at h1;omega),ho,Upd.refl _ _⟩ ?_
  rintro I ⟨i,j⟩ ⟨ti,tj⟩ H ⟨e1,e2,hsi,J,hjr,N,F,o,S⟩ hI;simp only at e1 e2 hsi J hjr N F;subst e1 e2;refine aE (fun T=>?_) fun hge=>?_
  ·have T:i<j:=by have:(i:Int)<(j:Int):=T;omega
   refine⟨by decide,?_⟩;rw[zY (i:=i) (j:=j) (by omega)];obtain⟨c,hcc⟩:∃c,(i+j)/2=c:=⟨_,rfl⟩;rw[hcc];have hci:i≤c:=by omega
   have hcj:c<j:=by omega
   have eq:IntKind.wrap .i64 (((d+m-1:Nat):Int)-(c:Int))=((d+m-1-c:Nat):Int):=by rw[gi (by omega)];omega
   rw[eq];have Y:c-a<U.length:=by omega
   have hk2:d-1-c<V.length:=by omega
   obtain⟨W,f,hx⟩:=tU o (i:=c) (x:=U[c-a]) (Iy (k:=c-a) (by omega) (ag Y));obtain⟨a2,C,hy⟩:=tU o (i:=d+m-1-c) (x:=V[d-1-c]) (Lj (k:=d-1-c) (by omega) (ag hk2));rw[f]at C;cases C;have hUc:U[c-a]? =some U[c-a]:=ag Y;have hVc:V[d-1-c]? =some V[d-1-c]:=ag hk2;generalize U[c-a]=x at hx hUc
   generalize V[d-1-c]=y at hy hVc;refine⟨⟨by omega,by omega⟩,W,f,y.1,hy 0 _ rfl,y.2,hy 1 _ rfl,⟨by omega,by omega⟩,W,f,x.1,hx 0 _ rfl,x.2,hx 1 _ rfl,?_⟩
   refine hc.call y x (hc.step S hi) fun X e k5 he=>?_
   rw[he];have ho5:=o.upd k5 fun _ _ h=>h
   have hu5:=S.tr k5.wide;cases hyx:lt y x with
   |false=>
    refine aB.2 ?_;have ew:IntKind.wrap .i64 ((c:Int)+1)=((c+1:Nat):Int):=by rw[gi (by omega)];omega
    rw[ew];refine hI (c+1,j) _ _ ⟨rfl,rfl,by simp only;omega,by simp only;omega,hjr,fun c' x' y' h1 H hx' hy'=>?_,F,ho5,hu5⟩ (by simp only;omega)
    simp only at H;have q1:=oa w sU (i:=c'-a) (j:=c-a) (by omega) hx' hUc;have q2:=oa w sV (i:=d-1-c) (j:=d-1-c') (by omega) hVc hy';exact w.ntr _ _ _ (w.ntr _ _ _ q2 hyx) q1
   |true=>
    refine ak.2 ?_;refine hI (i,c) _ _ ⟨rfl,rfl,hsi,hci,by simp only;omega,N,fun c' x' y' h1 H hx' hy'=>?_,ho5,hu5⟩ (by simp only;omega)
    simp only at h1;have q1:=oa w sU (i:=c-a) (j:=c'-a) (by omega) hUc hx';have q2:=oa w sV (i:=d-1-c') (j:=d-1-c) (by omega) hy' hVc;cases hyx':lt y' x' with
    |true=>rfl
    |false=>rw[w.ntr _ _ _ (w.ntr _ _ _ q2 hyx') q1]at hyx;cases hyx
  have J:i=j:=by have:¬(i:Int)<(j:Int):=hge;omega
  subst J;have en:IntKind.wrap .i64 (((d+m:Nat):Int)-(i:Int))=((d+m-i:Nat):Int):=by rw[gi (by omega)];omega
  simp only;rw[en];obtain⟨U1,U2,eU,hU1⟩:∃U1 U2,U=U1++U2∧U1.length=i-a:=⟨U.take (i-a),U.drop (i-a),(aY ..).symm,by rw[aK];omega⟩
  obtain⟨V1,V2,eV,hV1⟩:∃V1 V2,V=V1++V2∧V1.length=d-i:=⟨V.take (d-i),V.drop (d-i),(aY ..).symm,by rw[aK];omega⟩
  have c1:∀v∈V1,∀u∈U2,lt v u=true:=fun v hv u hu=>by
   obtain⟨q,D,e⟩:=bU hv;obtain⟨p,hp,e'⟩:=bU hu;have hlU:U.length=U1.length+U2.length:=by rw[eU,ad]
   have n1:0<U2.length:=by omega
   have n2:d-1-i<V1.length:=by omega
   have gx:U[i-a]? =some (U2[0]'n1):=by rw[eU,aH (by omega),←hU1,fO,ag (by omega)]
   have gy:V[d-1-i]? =some (V1[d-1-i]'n2):=by rw[eV,bL (by omega),ag (by omega)]
   have hQ:=F i _ _ (aq _) (by omega) gx gy;have q1:=oa w sU (i:=i-a) (j:=i-a+p) (by omega) gx (by rw[eU,aH (by omega),←hU1,dT,ag hp,e']);have q2:=oa w sV (i:=q) (j:=d-1-i) (by omega) (by rw[eV,bL D,ag D,e]) gy;cases hvu:lt v u with
   |true=>rfl
   |false=>rw[w.ntr _ _ _ (w.ntr _ _ _ q2 hvu) q1]at hQ;cases hQ
  have c2:∀u∈U1,∀v∈V2,lt v u=false:=fun u hu v hv=>by
   obtain⟨p,hp,e'⟩:=bU hu;obtain⟨q,D,e⟩:=bU hv;have hlV:V.length=V1.length+V2.length:=by rw[eV,ad]
   have n1:i-1-a<U1.length:=by omega
   have n2:0<V2.length:=by omega
   have gx:U[i-1-a]? =some (U1[i-1-a]'n1):=by rw[eU,bL (by omega),ag (by omega)]
   have gy:V[d-1-(i-1)]? =some (V2[0]'n2):=by rw[eV,aH (by omega),show d-1-(i-1)-V1.length=0 by omega,ag (by omega)]
   have hQ:=N (i-1) _ _ (by omega) (by omega) gx gy;have q1:=oa w sU (i:=p) (j:=i-1-a) (by omega) (by rw[eU,bL hp,ag hp,e']) gx;have q2:=oa w sV (i:=d-i) (j:=d-i+q) (by omega) (by rw[eV,aH (by omega),hV1,fO,ag (by omega)]) (by rw[eV,aH (by omega),hV1,dT,ag D,e])
   have gy2:V[d-i]? =some (V2[0]'n2):=by rw[eV,aH (by omega),hV1,fO,ag (by omega)]
   exact w.ntr _ _ _ (w.ntr _ _ _ q2 hQ) q1
  subst eU eV;simp only[ad]at z hU hV hl hm O hU2 hV2;have sA1:=sU.left;have sA2:=sU.right;have sB1:=sV.left;have sB2:=sV.right;refine Join.intro (fun _ h3=>OwnS eA 2 af M h3 s (A++(U1++(V1++(U2++(V2++B)))))∧Upd M h' h3) (fun Rj hRj=>?_) ?_
  ·have f1:A++((U1++U2)++((V1++V2)++B))=(A++U1)++(U2++(V1++(V2++B))):=by simp
   have f2:(A++U1)++(V1++(U2++(V2++B)))=A++(U1++(V1++(U2++(V2++B)))):=by simp
   refine Join.intro (fun t h3=>h3=H∧(t=true↔0<U2.length∧0<V1.length)) (fun Rk Z=>?_) ?_
   ·refine aE (fun h=>Z _ _ ⟨rfl,?_⟩) fun h=>Z _ _ ⟨rfl,⟨fun h=>(by cases h),fun h=>(by omega)⟩⟩
    rw[decide_eq_true_iff];constructor
    ·intro h;constructor<;>omega
    ·rintro⟨h1,H⟩;omega
   ·rintro t h3 ⟨rfl,ht⟩
    cases t with
    |true=>
     obtain⟨p1,p2⟩:=ht.1 rfl;rw[f1]at o;refine aB.2 (GM o hn p1 p2 (by rw[ad];omega) (by rw[ad];omega) (by rw[ad];omega) fun h4 o4 k4=>hRj _ _ ⟨?_,S.trans k4 fun b O=>.inl O⟩)
     rw[f2]at o4;exact o4
    |false=>
     have hz:U2= []∨V1= []:=by
      rcases fI U2.length with h|h
      ·exact .inl (aD.1 h)
      ·rcases fI V1.length with h3|h3
       ·exact .inr (aD.1 h3)
       ·have:=ht.2 ⟨h,h3⟩;cases this
     refine ak.2 (hRj _ _ ⟨?_,S⟩);rw[f1]at o;rw[←f2];rcases hz with rfl|rfl
     ·exact o
     ·exact o
  rintro _ h3 ⟨o3,k3⟩;refine Join.intro (fun _ h4=>∃R1,OwnS eA 2 af M h4 s (A++(R1++(U2++(V2++B))))∧St lt (U1++V1) R1∧Upd M h' h4) (fun Rj hRj=>?_) ?_
  ·refine Join.intro (fun t h4=>h4=h3∧(t=true↔0<U1.length∧0<V1.length)) (fun Rk Z=>?_) ?_
   ·refine aE (fun h=>Z _ _ ⟨rfl,?_⟩) fun h=>Z _ _ ⟨rfl,⟨fun h=>(by cases h),fun h=>(by omega)⟩⟩
    rw[decide_eq_true_iff];constructor
    ·intro h;constructor<;>omega
    ·rintro⟨h1,H⟩;omega
   ·rintro t h4 ⟨rfl,ht⟩
    cases t with
    |true=>
     obtain⟨p1,p2⟩:=ht.1 rfl;refine aB.2 (ih (by omega) o3 (hc.step k3 hi) p1 p2 sA1 sB1 ha (by omega) (by omega) fun X R1 o5 s5 k5=>hRj _ _ ⟨R1,o5,s5,k3.trans k5 fun b O=>.inl O⟩)
    |false=>
     refine ak.2 (hRj _ _ ⟨U1++V1,by simpa using o3,⟨Eqf.rfl _,?_⟩,k3⟩)
     rcases fI U1.length with h|h
     ·rw[aD.1 h];exact sB1
     ·rcases fI V1.length with X|X
      ·rw[aD.1 X,bG];exact sA1
      ·have:=ht.2 ⟨h,X⟩;cases this
  rintro _ h4 ⟨R1,o4,s1,k4⟩;have hR1:=s1.eqf.len;rw[ad]at hR1;have fin:∀{X:ac} {R2:List (Pr)},OwnS eA 2 af M X s (A++(R1++(R2++B)))→St lt (U2++V2) R2→Upd M h' X→K () X:=fun{X R2} o5 s2 k5=>by
   refine hk X (R1++R2) ?_ (IW w sU sV c1 c2 s1 s2) k5;rw[ax];exact o5
  refine Join.intro (fun t X=>X=h4∧(t=true↔0<U2.length∧0<V2.length)) (fun Rk Z=>?_) ?_
  ·refine aE (fun h=>Z _ _ ⟨rfl,?_⟩) fun h=>Z _ _ ⟨rfl,⟨fun h=>(by cases h),fun h=>(by omega)⟩⟩
   rw[decide_eq_true_iff];constructor
   ·intro h;constructor<;>omega
   ·rintro⟨h1,H⟩;omega
  ·rintro t X ⟨rfl,ht⟩
   have f1:A++(R1++(U2++(V2++B)))=(A++R1)++(U2++(V2++B)):=by simp
   cases t with
   |true=>
    obtain⟨p1,p2⟩:=ht.1 rfl;rw[f1]at o4;refine aB.2 (ih (by omega) o4 (hc.step k4 hi) p1 p2 sA2 sB2 (by rw[ad];omega) (by rw[ad];omega) (by rw[ad];omega) fun h6 R2 o6 s6 k6=>fin (R2:=R2) ?_ s6 (k4.trans k6 fun b O=>.inl O))
    rw[ax]at o6;exact o6
   |false=>
    refine ak.2 (fin (R2:=U2++V2) (by simpa using o4) ⟨Eqf.rfl _,?_⟩ k4);rcases fI U2.length with h|h
    ·rw[aD.1 h];exact sB2
    ·rcases fI V2.length with h6|h6
     ·rw[aD.1 h6,bG];exact sA2
     ·have:=ht.2 ⟨h,h6⟩;cases this
theorem Gz{lt:Pr→Pr→Bool}(w:WO lt){M:Nat→Prop}{Iv:ac→Prop}{i:Value}(hc:Cmp lt eA M Iv i){h:ac}{s:SliceV}{xs:List (Pr)}(ho:OwnS eA 2 af M h s xs)(hi:Iv h)(hn:xs.length≤100000000){K:Unit→ac→Prop}
  (hk:∀h' R,OwnS eA 2 af M h' s R→St lt xs R→Upd M h h'→K () h'):HC PG ct [.slice s.a s.len s.cap,i] [] K h:=by
 refine ij s i ?_;unfold eK;refine ma s (s.len:Int) i ?_;unfold hH;have m:=ho.len;have e:s.len≤1000000000:=by omega
 refine LoopP.ghost (fun(g:List (Pr)×List (Pr)×List (Pr)) (t:Int×Int) h'=>t.1=(g.2.1.length:Int)∧t.2=((g.2.1.length+20:Nat):Int)∧xs=g.1++g.2.2∧Eqf lt g.1 g.2.1∧Full lt 20 g.2.1∧OwnS eA 2 af M h' s (g.2.1++g.2.2)∧Upd M h h') (fun g=>g.2.2.length) ([],[],xs)
  ⟨rfl,rfl,rfl,Eqf.rfl _,Full.nil,ho,Upd.refl _ _⟩ ?_
 rintro I ⟨X,D,T⟩ ⟨ta,tb⟩ h1 ⟨j,H,C,d,k,G,k1⟩ hI;simp only at j H C d k G;subst j H C;have hXD:=d.len;simp only[ad]at m hn;refine aE (fun W=>?_) fun Q=>?_
 ·obtain⟨S,T',rfl,hS⟩:∃S T',T=S++T'∧S.length=20:=⟨T.take 20,T.drop 20,(aY ..).symm,by rw[aK];omega⟩
  refine yY w hc G (hc.step k1 hi) e rfl (b:=D.length+20) (by omega) fun h2 R y v O=>?_
  have A:=v.eqf.len;simp only[ad]at m hn;have E:IntKind.wrap .i64 (((D.length+20:Nat):Int)+20)=(((D++R).length+20:Nat):Int):=by rw[ad,gi (by omega)];omega
  rw[E];refine hI (X++S,D++R,T') _ _ ⟨by simp only[ad];omega,rfl,by simp,d.app v.eqf,k.app (by omega) v.srt,by rw[ax];exact y,k1.trans O fun b p=>.inl p⟩ (by simp only[ad];omega)
 have V:D++T=D++(T++ []):=by simp
 rw[V]at G;refine yY w hc G (hc.step k1 hi) e rfl (b:=s.len) (by omega) fun h2 R y v O=>?_
 have A:=v.eqf.len;rw[bG]at y;have o:Eqf lt (X++T) (D++R):=d.app v.eqf;have J:Runs lt 20 (D++R):=k R (.last R (by omega) v.srt);have O:Upd M h h2:=k1.trans O fun b p=>.inl p
 generalize D++R=ys at y o J;generalize X++T=zs at o hk;have c:s.len=ys.length:=y.len;clear hI d k G V Q A;refine LoopP.ghost (fun(g:Nat×List (Pr)) (t:Int) h'=>t=(g.1:Int)∧0<g.1∧g.1≤200000000∧Runs lt g.1 g.2∧Eqf lt zs g.2∧OwnS eA 2 af M h' s g.2∧Upd M h h') (fun g=>s.len-g.1) (20,ys)
  ⟨rfl,by simp,by simp,J,o,y,O⟩ ?_
 rintro I2 ⟨a,ys⟩ t h3 ⟨j,hb0,hb1,hr,n,U,k3⟩ hI2;simp only at j hb0 hb1 hr n U;subst j;have c:s.len=ys.length:=U.len;refine aE (fun hlt=>?_) fun hge=>?_
 ·have hlt:a<s.len:=by omega
  have e0:IntKind.wrap .i64 (2*(a:Int))=((2*a:Nat):Int):=by rw[gi (by omega)];omega
  rw[e0];refine LoopP.ghost (fun(g:List (Pr)×List (Pr)×List (Pr)) (t:Int×Int) h'=>t.1=(g.2.1.length:Int)∧t.2=((g.2.1.length+2*a:Nat):Int)∧ys=g.1++g.2.2∧Eqf lt g.1 g.2.1∧Full lt (2*a) g.2.1∧Runs lt a g.2.2∧OwnS eA 2 af M h' s (g.2.1++g.2.2)∧Upd M h h') (fun g=>g.2.2.length) ([],[],ys)
   ⟨rfl,by simp,rfl,Eqf.rfl _,Full.nil,hr,U,k3⟩ ?_
  rintro I3 ⟨Y,D,T⟩ ⟨ta,tb⟩ h4 ⟨j,H,C,d,k,f,B,F⟩ hI3;simp only at j H C d k f B;subst j H C;have hYD:=d.len;simp only[ad]at c;have ea:IntKind.wrap .i64 ((D.length:Int)+(a:Int))=((D.length+a:Nat):Int):=by rw[gi (by omega)];omega
  simp only;rw[ea];refine aE (fun W=>?_) fun Q=>?_
  ·obtain⟨B1,T1,rfl,hB1,q,u⟩:=f.split (by omega)
   simp only[ad]at c;obtain⟨B2,T2,rfl,hB2,sB2,hr2⟩:=u.split (by omega);simp only[ad]at c;refine ws w hc e (B1.length+B2.length) (aq _) B (hc.step F hi) (by omega) (by omega) q sB2 rfl (by omega) (by omega) fun L R z x P=>?_
   have A:=x.eqf.len;rw[ad]at A;have E:IntKind.wrap .i64 (((D.length+2*a:Nat):Int)+((2*a:Nat):Int))=(((D++R).length+2*a:Nat):Int):=by rw[ad,gi (by omega)];omega
   rw[E];refine hI3 (Y++(B1++B2),D++R,T2) _ _ ⟨by simp only[ad];omega,rfl,by simp,d.app x.eqf,k.app (by omega) x.srt,hr2,by rw[ax];exact z,F.trans P fun b p=>.inl p⟩ (by simp only[ad];omega)
  ·refine Join.intro (fun _ L=>∃R,Eqf lt T R∧Runs lt (2*a) R∧OwnS eA 2 af M L s (D++R)∧Upd M h L) (fun Rj N=>?_) ?_
   ·refine aE (fun Z=>?_) fun Z=>?_
    ·obtain⟨B1,T1,rfl,hB1,q,u⟩:=f.split (by omega)
     simp only[ad]at c;have V:D++(B1++T1)=D++(B1++(T1++ [])):=by simp
     rw[V]at B;refine ws w hc e (B1.length+T1.length) (aq _) B (hc.step F hi) (by omega) (by omega) q (u.short (by omega)) rfl (by omega) (by omega) fun L R z x P=>?_
     have A:=x.eqf.len;rw[ad]at A;rw[bG]at z;exact N _ _ ⟨R,x.eqf,.last R (by omega) x.srt,z,F.trans P fun b p=>.inl p⟩
    ·exact N _ _ ⟨T,Eqf.rfl _,.last T (by omega) (f.short (by omega)),B,F⟩
   ·rintro _ L ⟨R,q5,r5,z,P⟩
    have E:IntKind.wrap .i64 ((a:Int)*2)=((2*a:Nat):Int):=by rw[gi (by omega)];omega
    rw[E];exact hI2 (2*a,D++R) _ _ ⟨rfl,by simp only;omega,by simp only;omega,k R r5,n.tr (d.app q5),z,P⟩ (by simp only;omega)
 ·exact hk h3 ys U ⟨n,hr.short (by omega)⟩ k3
end Go.Proofs
namespace Go.Proofs
open Go Go.Lift
variable {z0:Hs}
end Go.Proofs
namespace Go.Proofs
open Go Go.Lift
def StP(N:Nat):Prop:=∀{lt:Pr→Pr→Bool},WO lt→∀{M:Nat→Prop} {Iv:ac→Prop} {cmp:Value},Cmp lt eA M Iv cmp→∀{h:ac} {s:SliceV} {xs:List Pr},OwnS eA 2 af M h s xs→Iv h→xs.length≤N→∀{K:Unit→ac→Prop},
 (∀h' R,OwnS eA 2 af M h' s R→St lt xs R→Upd M h h'→K () h')→HC PG ct [.slice s.a s.len s.cap,cmp] [] K h
theorem stP:StP 100000000:=fun w _ _ _ hc _ _ _ a hi b _ c=>Gz w hc a hi b c
end Go.Proofs
namespace Go.Proofs
open Go Go.Lift
def MB(a b:Pr):Bool:=decide (kl a.1 b.1)
theorem NW:WO MB:=by
 refine⟨fun a=>decide_eq_false (cP _),fun a b h=>decide_eq_false fun k=>cP _ (g5 (of_decide_eq_true h) k),fun a b c h k=>decide_eq_false fun d=>?_⟩
 have h:=of_decide_eq_false h;have k:=of_decide_eq_false k;by_cases e:b.1=c.1
 ·rw[←e]at d;exact h d
 ·have f:=qM k e
  exact h (g5 d f)
theorem MV(x a:Pr):Gi MB x a=decide (a.1=x.1):=by
 unfold Gi MB;by_cases e:a.1=x.1
 ·rw[decide_eq_true e,e,decide_eq_false (cP _)];rfl
 ·rw[decide_eq_false e]
  by_cases h:kl a.1 x.1
  ·rw[decide_eq_true h];rfl
  ·rw[decide_eq_false h,decide_eq_true (qM h e)];rfl
def ic(l:List Pr)(k:ByteArray):Option Pr:=(l.filter fun q=>decide (q.1=k)).getLast?
theorem pp(q:Pr)(l:List Pr)(k:ByteArray):ic (q::l) k=if q.1=k then some ((ic l k).getD q)else ic l k:=by
 unfold ic;rw[List.filter_cons];by_cases h:q.1=k
 ·rw[if_pos (decide_eq_true h),if_pos h,List.getLast?_cons]
 ·rw[if_neg (by simpa using h),if_neg h]
theorem Jt{l:List Pr}{k:ByteArray}{p:Pr}(h:ic l k=some p):p.1=k:=by
 unfold ic at h;have:=List.mem_of_getLast? h;exact of_decide_eq_true (cF.1 this).2
theorem CZ{l:List Pr}{k:ByteArray}{p:Pr}(h:ic l k=some p):p∈l:=by
 unfold ic at h;exact(cF.1 (List.mem_of_getLast? h)).1
theorem G9{l:List Pr}{k:ByteArray}(h:∀q∈l,q.1≠k):ic l k=none:=by
 unfold ic;rw[List.filter_eq_nil_iff.2 fun q a=>by simpa using h q a];rfl
theorem Ls{l a:List Pr}(h:Eqf MB l a)(k:ByteArray):ic a k=ic l k:=by
 unfold ic;have:=h.flt (k,k);have e:∀m:List Pr,m.filter (Gi MB (k,k))=m.filter fun q=>decide (q.1=k):=fun m=>List.filter_congr fun q _=>MV (k,k) q
 rw[e,e]at this;rw[this]
def ER(l:List Pr):List Pr:=l.foldl (fun acc p=>eX p acc) []
theorem yd:∀(l:List Pr) {acc:List Pr},di acc→di (l.foldl (fun acc p=>eX p acc) acc)∧∀p,p∈l.foldl (fun acc p=>eX p acc) acc↔ic l p.1=some p∨(ic l p.1=none∧p∈acc)
 | [],acc,hr=>⟨hr,fun p=>by simp[ic]⟩
 |q::l,acc,hr=>by
  obtain⟨d,b⟩:=yd l (xP q hr);refine⟨d,fun p=>?_⟩
  rw[List.foldl_cons,b p,pp,nu hr];by_cases e:q.1=p.1
  ·rw[if_pos e]
   cases hl:ic l p.1 with
   |none=>
    simp only[Option.getD_none,Option.some.injEq,reduceCtorEq,false_or,false_and,or_false];constructor
    ·rintro⟨_,rfl|⟨_,h⟩⟩
     ·rfl
     ·exact absurd e.symm h
    ·rintro rfl;exact⟨trivial,.inl rfl⟩
   |some r=>simp
  ·rw[if_neg e]
   constructor
   ·rintro(h|⟨h,rfl|⟨a,_⟩⟩)
    ·exact .inl h
    ·exact absurd rfl e
    ·exact .inr ⟨h,a⟩
   ·rintro(h|⟨h,a⟩)
    ·exact .inl h
    ·exact .inr ⟨h,.inr ⟨a,fun c=>e c.symm⟩⟩
theorem CB(l:List Pr):di (ER l):=(yd l dC).1
theorem Is{l:List Pr}{p:Pr}:p∈ER l↔ic l p.1=some p:=by
 have:=(yd l (acc:= []) dC).2 p;unfold ER;rw[this];simp
def ji:List Pr→List Pr
 | []=> []
 | [p]=> [p]
 |p::q::l=>if q.1=p.1 then ji (q::l)else p::ji (q::l)
theorem ny(p q:Pr)(l:List Pr):ji (p::q::l)=if q.1=p.1 then ji (q::l)else p::ji (q::l):=rfl
theorem vg:∀(l:List Pr),∀p∈ji l,p∈l
 | [],p,h=>h
 | [q],p,h=>h
 |q::r::l,p,h=>by
  rw[ny]at h;split at h
  ·exact aI _ (vg (r::l) p h)
  ·rcases au.1 h with rfl|h
   ·exact ay ..
   ·exact aI _ (vg (r::l) p h)
theorem CY:∀{l:List Pr},Srt MB l→di (ji l)∧∀p,p∈ji l↔ic l p.1=some p
 | [],_=>⟨dC,fun p=>by simp[ji,ic]⟩
 | [q],_=>⟨List.pairwise_singleton ..,fun p=>by
   show p∈[q]↔_
   rw[aw,pp]
   by_cases e:q.1=p.1
   ·rw[if_pos e];simp[ic,eq_comm]
   ·rw[if_neg e];simp only[ic,List.filter_nil,List.getLast?_nil,reduceCtorEq,iff_false]
    rintro rfl;exact e rfl⟩
 |p::q::l,hs=>by
  have c:=aQ.1 hs;obtain⟨g,i⟩:=CY (l:=q::l) c.2;rw[ny];by_cases e:q.1=p.1
  ·rw[if_pos e]
   refine⟨g,fun r=>?_⟩
   rw[i r,pp p];by_cases a:p.1=r.1
   ·rw[if_pos a]
    have:ic (q::l) r.1≠none:=by
     rw[pp,if_pos (e.trans a)];simp
    cases hl:ic (q::l) r.1 with
    |none=>exact absurd hl this
    |some z=>simp
   ·rw[if_neg a]
  ·rw[if_neg e]
   have d:∀r∈q::l,kl p.1 r.1:=fun r f=>by
    have b:kl p.1 q.1:=by
     have:=of_decide_eq_false (c.1 q (ay ..));exact qM this e
    rcases au.1 f with rfl|f
    ·exact b
    ·have:=of_decide_eq_false ((aQ.1 c.2).1 r f)
     by_cases a:r.1=q.1
     ·rw[a];exact b
     ·exact g5 b (qM this a)
   refine⟨aQ.2 ⟨fun r f=>d r (vg _ r f),g⟩,fun r=>?_⟩
   rw[au,i r,pp p];by_cases a:p.1=r.1
   ·rw[if_pos a]
    have m:ic (q::l) r.1=none:=G9 fun z k j=>by
     have:=d z k;rw[j,a]at this;exact cP _ this
    rw[m];simp[eq_comm]
   ·rw[if_neg a]
    constructor
    ·rintro(rfl|h)
     ·exact absurd rfl a
     ·exact h
    ·exact .inr
theorem G8{l ys:List Pr}(h:St MB l ys):ji ys=ER l:=by
 obtain⟨b,a⟩:=CY h.srt;refine xQ b (CB l) fun p=>?_
 rw[a p,Is,Ls h.eqf]
theorem Pf(M:Nat→Prop):Cmp MB eA M (fun _=>True) (.func (.func ol) #[] #[]):=by
 refine⟨fun a b h K _ d=>HV.mk' (zJ a b ?_),fun _ h=>h⟩
 unfold si al pf sF;refine bA fun g b1 k1=>bA fun i b2 c=>?_
 have c1:=c.get0 b1;refine⟨a.1,vc c1 0,a.2,vc c1 1,b.1,vc b2 0,?_⟩;refine Ff fun e f=>d e _ ((k1.tr c).tr f) ?_
 unfold Ca MB;split
 ·rename_i h;rw[decide_eq_true h];rfl
 ·rename_i h
  rw[decide_eq_false h];split<;>rfl
theorem AP:∀(l:List Pr),(ji l).length≤l.length
 | []=>aq _
 | [_]=>aq _
 |p::q::l=>by
  rw[ny];have:=AP (q::l);split
  ·simp only[az]at this⊢;omega
  ·simp only[az]at this⊢;omega
theorem K6{h:ac}{t:TypeId}{p:Pr}{k:ac→Prop}(b:∀h',h'[h.size]? =some (.cells #[.string p.1,.string p.2] t (0,0))→Upd No h h'→k h'):
 At (hnew h [.string (⟨#[]⟩:ByteArray),.string (⟨#[]⟩:ByteArray)] t) (fun a=>rk a (some (bc h)) 0 [.string p.1,.string p.2]∧At (ie a (bc h) 0 [.string p.1,.string p.2]) k):=uz (p:=p) b
theorem GB{N:Nat}(st:StP N)(hN:N≤100000000){W W':Nat→Prop}{h:ac}{s:SliceV}{l:List Pr}(hs:Sl eA 2 W h s l)(Y:∀y,W' y→y<h.size)(hn:l.length≤N){K:SliceV→ac→Prop}
  (hk:∀s' h',Sl eA 2 W' h' s' (ER l)→s'.len≤s'.cap→Upd No h h'→K s' h'):HC PG nb [.slice s.a s.len s.cap] [.c .slice] K h:=by
 refine Cm s ?_;unfold uN bB dw bD al nv nW kB mB;refine ua hs (by omega) fun E h1 O z=>?_
 refine st NW (Pf _) O trivial (by omega) fun h2 ys w C Q=>?_
 have hyl:=C.eqf.len;have A:Upd No h h2:=z.trans Q fun x hx=>.inr hx
 have hlen:=w.len;have n:=G8 C;have z1:=z.size;have hll:=AP ys;refine LoopP.ghost (fun(g:List Pr×List Pr×List Pr) (t:Int×Int) h'=>t.1=(g.1.length:Int)∧t.2=((g.1.length+g.2.1.length:Nat):Int)∧g.1++ji g.2.2=ji ys∧g.1.length+g.2.1.length+g.2.2.length=ys.length∧OwnS eA 2 af (fun b=>h.size≤b) h' E (g.1++(g.2.1++g.2.2))∧Upd No h h') (fun g=>g.2.2.length) ([],[],ys)
  ⟨rfl,rfl,rfl,by simp,w,A⟩ ?_
 rintro I ⟨R,G,T⟩ ⟨tn,ti⟩ h3 ⟨e1,H,f,j,d,B⟩ hI;simp only at e1 H f j d;subst e1 H;refine aE (fun hlt=>?_) fun hge=>?_
 ·match T with
  | []=>simp only[bH]at j;omega
  |p::T=>
   simp only[az]at j;have ew:IntKind.wrap .i64 (((R.length+G.length:Nat):Int)+1)=((R.length+G.length+1:Nat):Int):=by rw[gi (by omega)];omega
   simp only;rw[ew];refine Join.intro (fun n' h'=>∃R' G',n'=(R'.length:Int)∧R'.length+G'.length=R.length+G.length+1∧R'++ji T=ji ys∧OwnS eA 2 af (fun b=>h.size≤b) h' E (R'++(G'++T))∧Upd No h h') (fun Rj u=>?_) ?_
   ·obtain⟨a,F,hv⟩:=tU d (i:=R.length+G.length) (x:=p) (by rw[aH (by omega),dT,aH (aq _),fO];rfl)
    refine⟨⟨by omega,by omega⟩,a,F,p.1,hv 0 _ rfl,p.2,hv 1 _ rfl,?_⟩
    refine K6 (p:=p) fun h4 b4 k4=>?_
    have k:=d.upd k4 fun _ _ h=>h
    have o:=B.tr k4;refine Join.intro (fun t h'=>h'=h4∧(t=true↔∃q v,T=q::v∧q.1=p.1)) (fun Rk D=>?_) ?_
    ·refine aE (fun hlt2=>?_) fun hge2=>D _ _ ⟨rfl,⟨fun h=>(by cases h),fun⟨q,v,e,_⟩=>(by subst e;simp only[az]at j;omega)⟩⟩
     rcases T with _|⟨q,T⟩
     ·simp only[bH]at j;omega
     ·obtain⟨a',ha',hv'⟩:=tU k (i:=R.length+G.length+1) (x:=q) (by rw[aH (by omega),show R.length+G.length+1-R.length=G.length+1 by omega,aH (by omega),dT];rfl)
      refine⟨⟨by omega,by omega⟩,a',ha',q.1,hv' 0 _ rfl,p.1,vc b4 0,D _ _ ⟨rfl,?_⟩⟩
      rw[gC,decide_eq_true_iff];exact⟨fun e=>⟨q,T,rfl,e⟩,fun⟨q',v,e,e'⟩=>by cases e;exact e'⟩
    ·rintro t h5 ⟨rfl,ht⟩
     ·cases t with
      |true=>
       obtain⟨q,v,rfl,eq⟩:=ht.1 rfl;refine aB.2 (u _ _ ⟨R,G++ [p],rfl,by simp;omega,?_,by simpa using k,o⟩)
       rw[←f,ny,if_pos eq]
      |false=>
       have J:ji (p::T)=p::ji T:=by
        rcases T with _|⟨q,v⟩
        ·rfl
        ·rw[ny,if_neg fun e=>by have:=ht.2 ⟨q,v,rfl,e⟩;cases this]
       refine ak.2 ⟨p.1,vc b4 0,p.2,vc b4 1,⟨by omega,by omega⟩,a,F,?_⟩
       have ew2:IntKind.wrap .i64 ((R.length:Int)+1)=((R++ [p]).length:Int):=by rw[ad,bf,gi (by omega)];omega
       rw[ew2];rcases G with _|⟨g,G⟩
       ·rw[d4]at k
        refine qL k p F (by simp) fun h6 V P=>u _ _ ⟨R++ [p],[],rfl,by simp,?_,by simpa using V,o.trans P fun b S=>.inr S⟩
        rw[←f,J];simp
       ·have f1:R++((g::G)++p::T)=R++g::(G++p::T):=by simp
        rw[f1]at k;refine qL k p F (by simp) fun h6 V P=>u _ _ ⟨R++ [p],G++ [p],rfl,by simp;omega,?_,by simpa using V,o.trans P fun b S=>.inr S⟩
        rw[←f,J];simp
   ·rintro n' h6 ⟨R',G',rfl,Z,hl6,U,L⟩
    exact hI (R',G',T) _ _ ⟨rfl,by simp only;rw[Z],hl6,by simp only;omega,U,L⟩ (by simp)
 ·have J:T= []:=aD.1 (by omega)
  subst J;simp only[bH]at j;simp only[ji,bG]at f d;have hcap:=d.cap;refine⟨⟨by simp only;omega,by simp only;omega⟩,?_⟩
  have X:=d.sl (W:=W') fun x hx _ hw=>by have:=Y x hw;omega
  have hA:=Sl.sub X (l:=0) (hi:=R.length) (m:=E.cap) (c:=E.cap-0) (cj _) (by simp) (by omega);have H:((R++G).drop 0).take (R.length-0)=ER l:=by rw[List.drop_zero,Nat.sub_zero,List.take_left];exact f.trans n
  rw[H]at hA;exact hk _ _ hA (by simp only;omega) B
theorem IZ{W W':Nat→Prop}{h:ac}{s:SliceV}{l:List Pr}(c:Sl eA 2 W h s l)(a:∀y,W' y→y<h.size)(d:l.length≤10000000){K:SliceV→ac→Prop}
 (b:∀s' h',Sl eA 2 W' h' s' (ER l)→s'.len≤s'.cap→Upd No h h'→K s' h'):HC PG nb [.slice s.a s.len s.cap] [.c .slice] K h:=GB stP (aq _) c a (by omega) b
end Go.Proofs
namespace Go.Proofs
open Go Go.Lift
theorem K8{β:Type}{g:Nat→Option β}{n:Nat}{y:β}:y∈fm g n↔∃c,c<n∧g c=some y:=by
 unfold fm;rw[List.mem_filterMap];exact⟨fun⟨c,b,a⟩=>⟨c,gH.1 b,a⟩,fun⟨c,b,a⟩=>⟨c,gH.2 b,a⟩⟩
def wl(x:Hs):Nat→List Pr→List Pr
 |0,l=>l
 |m+1,l=>yR x (12-m) l++(sI x (12-m) l).flatMap (wl x m)
theorem Dp(x:Hs)(m:Nat)(l:List Pr):wl x (m+1) l=yR x (12-m) l++(sI x (12-m) l).flatMap (wl x m):=rfl
theorem AL{x:Hs}{p:Pr}:∀(m:Nat) {l:List Pr},p∈wl x m l↔p∈l
 |0,_=>Iff.rfl
 |m+1,l=>by
  rw[Dp,bq,List.mem_flatMap];constructor
  ·rintro(h|⟨L,d,h⟩)
   ·exact Jo h
   ·obtain⟨_,c,rfl⟩:=CU d
    exact(nt.1 ((AL m).1 h)).1
  ·intro h
   have hm:p∈part x (12-m) (ck x (12-m) p.1) l:=nt.2 ⟨h,rfl⟩;have hc:=FM x (12-m) p.1;rcases d:part x (12-m) (ck x (12-m) p.1) l with _|⟨a,_|⟨b,r⟩⟩
   ·rw[d]at hm;cases hm
   ·left
    rw[d]at hm;rw[aw.1 hm];unfold yR;exact K8.2 ⟨_,hc,by show DC (part x (12-m) (ck x (12-m) p.1) l)=_;rw[d];rfl⟩
   ·right
    refine⟨a::b::r,?_,(AL m).2 (by rw[←d];exact hm)⟩;unfold sI;exact K8.2 ⟨_,hc,by show xX (part x (12-m) (ck x (12-m) p.1) l)=_;rw[d];rfl⟩
theorem FG{f:List Pr→List Pr}(h:∀l,(f l).length≤l.length):∀ls:List (List Pr),(ls.flatMap f).length≤ls.flatten.length
 | []=>aq _
 |l::ls=>by
  have b:=h l;have a:=FG h ls;rw[bi,List.flatten_cons,ad,ad];omega
theorem Dq(x:Hs):∀(m:Nat) (l:List Pr),(wl x m l).length≤l.length
 |0,_=>aq _
 |m+1,l=>by
  rw[Dp,ad];have b:=CC x (12-m) l;have a:=FG (Dq x m) (sI x (12-m) l);omega
theorem NJ{x:Hs}{m:Nat}{l:List Pr}(d:di l):ER (wl x m l)=l:=by
 refine xQ (CB _) d fun p=>?_
 rw[Is];constructor
 ·intro h;exact(AL m).1 (CZ h)
 ·intro h
  have b:p∈(wl x m l).filter fun q=>decide (q.1=p.1):=cF.2 ⟨(AL m).2 h,decide_eq_true rfl⟩
  have a:ic (wl x m l) p.1≠none:=by
   unfold ic;intro e;rw[List.getLast?_eq_none_iff]at e;rw[e]at b;cases b
  cases hl:ic (wl x m l) p.1 with
  |none=>exact absurd hl a
  |some q=>
   have c:=Jt hl;have i:=(AL m).1 (CZ hl);have g:(p.1,q.2)∈l:=by rw[←c];exact i
   have f:=AD d (k:=p.1) (v:=p.2) (w:=q.2) h g;rw[Prod.ext c f.symm]
def cw(x:Hs):Nat→List Pr→Nat
 |0,_=>2
 |m+1,l=>2+((sI x (12-m) l).map (cw x m)).sum
structure Fr where
 sp:SliceV
 sk:SliceV
 n:Nat
 ps:List Pr
 ks:List (Nat×List Pr)
abbrev Kc(v:SliceV×SliceV):List Value:= [sv v.1,sv v.2]
theorem Lm(x:SliceV×SliceV):(Kc x).length=2∧0<2:=⟨rfl,by omega⟩
def Fr.raw(f:Fr):SliceV×SliceV:=(f.sp,f.sk)
def Fr.rem(x:Hs)(f:Fr):List Pr:=f.ps++f.ks.flatMap fun k=>wl x (f.n-1) k.2
def Fr.cost(x:Hs)(f:Fr):Nat:=1+(f.ks.map fun k=>cw x (f.n-1) k.2).sum
def xR(x:Hs)(l:List Fr):List Pr:=l.reverse.flatMap (Fr.rem x)
def y8(x:Hs)(l:List Fr):Nat:=(l.map (Fr.cost x)).sum
theorem tT(x:Hs)(l:List Fr)(f:Fr):xR x (l++ [f])=f.rem x++xR x l:=by unfold xR;rw[List.reverse_append];rfl
theorem vA(x:Hs)(l:List Fr)(f:Fr):y8 x (l++ [f])=y8 x l+f.cost x:=by unfold y8;rw[List.map_append,List.sum_append];simp
abbrev Fs(k:Nat×List Pr):Option Addr:=some ⟨k.1,0,none⟩
structure Fr.Ok(W G:Nat→Prop)(x:Hs)(h:ac)(f:Fr):Prop where
 p:Sl eA 2 (fun y=>¬G y) h f.sp f.ps
 k:Sl pn 1 (fun y=>¬G y) h f.sk (f.ks.map Fs)
 pc:f.sp.len≤f.sp.cap
 kc:f.sk.len≤f.sk.cap
 t:∀k∈f.ks,TrieAt W x h (f.n-1) k.1 k.2∧k.2.length≤100000
 n0:f.ks≠[]→0<f.n
 n13:f.n≤13
theorem Fr.Ok.upd{W G M:Nat→Prop}{x:Hs}{h h':ac}{f:Fr}(o:f.Ok W G x h)(k:Upd M h h')(d:∀b,M b→W b∨h.size≤b)(a:∀b,M b→¬G b∨h.size≤b):f.Ok W G x h':=
 ⟨o.p.upd k a,o.k.upd k a,o.pc,o.kc,fun q c=>⟨TrieAt.updM k d (o.t q c).1,(o.t q c).2⟩,o.n0,o.n13⟩
theorem Fr.Ok.sub{W G G':Nat→Prop}{x:Hs}{h:ac}{f:Fr}(o:f.Ok W G x h)(d:∀b,G b→G' b):f.Ok W G' x h:=
 ⟨o.p.less fun b c=>.inl fun a=>c (d b a),o.k.less fun b c=>.inl fun a=>c (d b a),o.pc,o.kc,o.t,o.n0,o.n13⟩
abbrev Pe(s:SliceV)(d:Int):Array Value:= #[sv s,.int .i64 d]
structure CurW(W G C:Nat→Prop)(x:Hs)(h:ac)(cb:Nat)(fs:List Fr):Prop where
 ex:∃s d,h[cb]? =some (.cells (Pe s d) uw (0,0))∧OwnS Kc 2 dq C h s (fs.map Fr.raw)
 ok:∀f∈fs,f.Ok W G x h
 lt:∀b,(C b∨G b)→b<h.size
 dj:∀b,G b→¬C b∧b≠cb
 cc:¬C cb
 cw:(∀b,C b→W b)∧W cb
 lv:fs.Pairwise fun f g=>g.n<f.n
theorem CurW.upd{W G C M:Nat→Prop}{x:Hs}{h h':ac}{e:Nat}{i:List Fr}(c:CurW W G C x h e i)(k:Upd M h h')(n:∀b,M b→W b∨h.size≤b)(j:∀b,C b→¬M b)(q:∀b,G b→¬M b)(g:¬M e):CurW W G C x h' e i:=by
 obtain⟨s,d,m,p⟩:=c.ex;exact⟨⟨s,d,k.get m g,p.upd k j⟩,fun f t=>(c.ok f t).upd k n fun b a=>.inl fun o=>q b o a,fun b a=>Nat.lt_of_lt_of_le (c.lt b a) k.size,c.dj,c.cc,c.cw,c.lv⟩
theorem K9:∀{a:List Fr} {n:Nat},a.Pairwise (fun f g=>g.n<f.n)→(∀f∈a,f.n≤n)→a.length≤n+1
 | [],_,_,_=>cj _
 |f::a,n,b,hn=>by
  have b:=aQ.1 b;have d:=hn f (ay ..);rcases a with _|⟨g,a⟩
  ·simp
  ·have c:=b.1 g (ay ..)
   have:=K9 (n:=f.n-1) b.2 fun g c=>by have:=b.1 g c;omega
   rw[az];omega
theorem Ii{α:Type}{f:α→List Value}{c:Nat}{t:TypeId}{M:Nat→Prop}{h:ac}{s:SliceV}{P Q:List α}{x y:α}{j:Nat}{v:Value}(m:OwnS f c t M h s (P++x::Q))(H:j<c)(C:f y=(f x).set j v){a:Addr}(w:s.a=some a){i:Nat}(hi:i=P.length){G:ac→Prop}(D:∀h',OwnS f c t M h' s (P++y::Q)→Upd M h h'→G h'):
  Wr h (adr (adr a (i*c)) j)∧At (hset h (adr (adr a (i*c)) j) v) G:=by
 subst hi;have q:=m.ne;have d:=m.len;have g:=m.cap;rcases m.blk with J|⟨b,e,k,A,hc,B⟩
 ·rw[ad,az]at d;omega
 rw[w]at k;cases k;have I:(P.flatMap f).length=P.length*c:=iT q P;rw[bV,bi]at hc;have F:=(q x).1;have E:adr (adr ⟨b,0,none⟩ (P.length*c)) j=⟨b,P.length*c+j,none⟩:=by rw[bO,bO,Nat.zero_add]
 rw[E];have o:P.length*c+j<(P.flatMap f++(f x++Q.flatMap f)++e).toArray.size:=by
  simp only[List.size_toArray,ad];omega
 refine⟨gR hc o,vD hc fun h' n p=>D h' ⟨by rw[d];simp,q,g,.inr ⟨b,e,w,A,?_,B⟩⟩ (p.mono fun z u=>.inl (by have u:z=b:=u;rw[u];exact A))⟩
 rw[n];congr 3
 rw[bV,bi,C];apply Array.toList_inj.1;rw[Array.toList_setIfInBounds];simp only[ax];rw[List.set_append_right _ _ (by omega),show P.length*c+j-(P.flatMap f).length=j by omega,List.set_append_left _ _ (by omega)]
theorem C2{W:Nat→Prop}{x:Hs}{h:ac}{m:Nat}:∀{ks:List (Option Addr)} {ls:List (List Pr)},KidsAt W x h m ks ls→∃q:List (Nat×List Pr),ks=q.map Fs∧ls=q.map (·.2)∧∀k∈q,TrieAt W x h m k.1 k.2
 | [],[],_=>⟨[],rfl,rfl,fun k b=>by cases b⟩
 |_::_,[],h=>h.elim
 | [],_::_,h=>h.elim
 |k::ks,l::ls,b=>by
  obtain⟨⟨d,e,t⟩,f⟩:=b;obtain⟨q,i,g,c⟩:=C2 f;refine⟨(d,l)::q,by rw[e,i];rfl,by rw[g];rfl,fun k' a=>?_⟩
  rcases au.1 a with rfl|a
  ·exact t
  ·exact c k' a
theorem Cx{W:Nat→Prop}{x:Hs}{h:ac}{m b:Nat}{l:List Pr}(t:TrieAt W x h m b l)(hm:m≤13)(S:l.length≤100000){K:SliceV×SliceV→ac→Prop}
  (w:∀h' f,f.n=m→Fr.rem x f=wl x m l→f.cost x+1=cw x m l→f.Ok W (fun y=>h.size≤y∧y<h'.size) x h'→Upd No h h'→K f.raw h'):HC PG rh [.pointer (some ⟨b,0,none⟩)] [.agg [.slice,.slice]] K h:=by
 refine Dl (some ⟨b,0,none⟩) ?_;unfold yH aO eg On Ox;refine bA fun j b1 k1=>?_
 have V:=TrieAt.upd0 k1 (TrieAt.less (W':=Pro W h j) Pro.hm t);obtain⟨d,n,sp,sk,R,ow,F,q,z,o,u,hlp,hq,I,hcw,A,J⟩:∃d n sp sk R ow F,∃q:List (Nat×List Pr),j[b]? =some (.cells (eW d n sp sk R ow) aZ (0,0))∧Sl eA 2 (Pro W h j) j sp F∧Sl pn 1 (Pro W h j) j sk (q.map Fs)∧F.length≤100000∧q.length≤32∧(F++q.flatMap fun k=>wl x (m-1) k.2)=wl x m l∧2+(q.map fun k=>cw x (m-1) k.2).sum=cw x m l∧(∀k∈q,TrieAt (Pro W h j) x j (m-1) k.1 k.2∧k.2.length≤100000)∧(q≠[]→0<m):=by
  cases m with
  |zero=>
   obtain⟨sp,sk,ow,z,o,u,_⟩:=BuckAt.ex V;exact⟨0,0,sp,sk,true,ow,l,[],z,o,u,S,by simp,by simp[wl],by simp[cw],fun k w=>(by cases w),fun h=>absurd rfl h⟩
  |succ m=>
   obtain⟨s,nd,G⟩:=V;have G:∀c,c<32→SlotIs (Pro W h j) x j m s c (part x (12-m) c l):=G;obtain⟨d,n,sp,sk,ow,z,bits,o,u,_⟩:=nd.ex;have H:=Lc (W:=Pro W h j) (x:=x) (h:=j) (m:=m) (lev:=12-m) (s:=s) (l:=l) 32 G;obtain⟨q,T,D,Y⟩:=C2 H;have D:sI x (12-m) l=q.map (·.2):=D
   have E:=Mh G;have Z:=CC x (12-m) l;have Q:=AY (g:=s.k);have hql:q.length=(fm s.k 32).length:=by rw[T,bd]
   refine⟨d,n,sp,sk,false,ow,fm s.p 32,q,z,o,by rw[←T];exact u,by rw[E];omega,by omega,?_,?_,fun k w=>⟨Y k w,?_⟩,fun _=>Nat.succ_pos _⟩
   ·rw[Dp,E,D,List.flatMap_map];rfl
   ·show _=2+_
    rw[D,List.map_map];rfl
   ·have:k.2∈sI x (12-m) l:=by rw[D];exact List.mem_map.2 ⟨k,w,rfl⟩
    obtain⟨_,c,hc⟩:=CU this;rw[hc];exact Nat.le_trans AI S
 refine Fe z o (by omega) fun P h2 C i=>?_
 refine MF (i.get0 z) (u.upd i fun _ h=>h.elim) (by rw[bd];omega) fun O h3 B v=>?_
 have b3:=v.get0 (i.get0 b1);have z1:=k1.size;have z2:=i.size;have z3:=v.size;have zb:=aW b1;refine dW (c:= [.slice none 0 0,.slice none 0 0]) (vs:= [sv P,sv O]) b3 rfl fun U X p=>?_
 refine⟨P,vc X 0,O,vc X 1,?_⟩;have z4:=p.size;have L:Upd No h U:=((k1.tr i).tr v).own p (aq _);refine w U ⟨P,O,m,F,q⟩ rfl I (by unfold Fr.cost;simp only;omega) ⟨?_,?_,C.cap,B.cap,fun k w=>⟨TrieAt.less (W:=Pro W h j) (fun y a=>.inl (.inl a)) (TrieAt.updM (M:=(· =h.size)) p (fun y a=>.inl (.inr (by have a:y=h.size:=a;omega))) (TrieAt.upd0 (i.tr v) (A k w).1)),(A k w).2⟩,J,hm⟩ L
 ·exact(((C.upd v fun _ _ h=>h).within).upd p fun y a e=>by have e:y=h.size:=e;have:=a.1;omega).sl fun y a _ N=>N ⟨by have:=a.1;omega,by have:=a.2;omega⟩
 ·exact(B.within.upd p fun y a e=>by have e:y=h.size:=e;have:=a.1;omega).sl fun y a _ N=>N ⟨by have:=a.1;omega,by have:=a.2;omega⟩
end Go.Proofs
