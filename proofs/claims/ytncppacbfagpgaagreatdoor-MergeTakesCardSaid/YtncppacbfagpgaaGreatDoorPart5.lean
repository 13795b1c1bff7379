/- A part of the proof that the named laws of this program answer true, whatever the input. -/
import Derived.Test.YtncppacbfagpgaaGreatDoorPart4
open List renaming length_append→ac,length_nil→aM,length_cons→ar,length_eq_zero_iff→aA,append_nil→aL,nil_append→cN,take_append_drop→aO,length_take→aQ,length_drop→aV,append_assoc→aq,length→fP,length_pos_iff→iR,mem_append→bC,mem_singleton→aD,mem_cons→aC,length_singleton→aK,getElem?_eq_some_iff→bN,getElem?_eq_getElem→af,getElem_of_mem→bQ,getElem?_append_left→cy,getElem?_append_right→aZ,mem_of_getLast?→jQ,mem_filter→di,mem_cons_of_mem→aE,mem_cons_self→au,pairwise_cons→aF
open List.Pairwise renaming nil→eI
open Nat renaming eq_zero_or_pos→dY,le_refl→aj,add_sub_cancel_left→ff,sub_self→gA
namespace Go.Proofs
open Go Go.Lift
theorem xL{M:Nat→Prop}{h:ad}{s:SliceV}{A U C V B:List (Pr)}(H:OwnS ey 2 al M h s (A++(U++(C++(V++B)))))(hn:s.len≤1000000000)(e:U.length=V.length){a b:Nat}(f:a=A.length)(w:b=A.length+U.length+C.length){n:Nat}(D:n=U.length){p:Value}{K:Unit→ad→Prop}
  (G:∀h',OwnS ey 2 al M h' s (A++(V++(C++(U++B))))→Upd M h h'→K () h'):HC PG dL [.slice s.a s.len s.cap,.int .i64 a,.int .i64 b,.int .i64 n,p] [] K h:=by
 subst f w D;refine qs s A.length (A.length+U.length+C.length:Nat) U.length p ?_;unfold kS bE bT iU ga;have d:=H.len;simp only[ac]at d;refine LoopP.ghost (fun(g:(List (Pr)×List (Pr))×List (Pr)×List (Pr)) (t:Int) h'=>t=(g.1.1.length:Int)∧U=g.1.1++g.1.2∧V=g.2.1++g.2.2∧g.1.1.length=g.2.1.length∧OwnS ey 2 al M h' s (A++(g.2.1++(g.1.2++(C++(g.1.1++(g.2.2++B))))))∧Upd M h h') (fun g=>g.1.2.length) (([],U),[],V)
  ⟨rfl,rfl,rfl,rfl,H,Upd.refl _ _⟩ ?_
 rintro I ⟨⟨U1,U2⟩,V1,V2⟩ t h' ⟨J,O,L,N,c,F⟩ R;simp only at J O L N c;subst J O L;simp only[ac]at e d;refine ax (fun q=>?_) fun x=>?_
 ·simp only[ac]at q
  match U2,V2 with
  | [],_=>simp only[aM]at q;omega
  |_::_,[]=>simp only[aM,ar]at e;omega
  |u::U2,v::V2=>
   simp only[ar]at e d;simp only[ac,ar];have y:IntKind.wrap .i64 (((A.length+(U1.length+(U2.length+1))+C.length:Nat):Int)+(U1.length:Int))=((A.length+(U1.length+(U2.length+1))+C.length+U1.length:Nat):Int):=by rw[eJ (by omega)];omega
   have z:IntKind.wrap .i64 ((A.length:Int)+(U1.length:Int))=((A.length+U1.length:Nat):Int):=by rw[eJ (by omega)];omega
   rw[y,z];have Y:A++(V1++((u::U2)++(C++(U1++((v::V2)++B)))))=(A++V1)++u::(U2++(C++(U1++(v::V2++B)))):=by simp
   have T:(A++V1)++u::(U2++(C++(U1++(v::V2++B))))=((A++V1)++u::(U2++(C++U1)))++v::(V2++B):=by simp
   have S:(A++V1)++v::(U2++(C++(U1++(v::V2++B))))=((A++V1)++v::(U2++(C++U1)))++v::(V2++B):=by simp
   have Z:((A++V1)++v::(U2++(C++U1)))++u::(V2++B)=A++((V1++ [v])++(U2++(C++((U1++ [u])++(V2++B))))):=by simp
   rw[Y]at c;obtain⟨a,f,k⟩:=jf c (i:=A.length+U1.length) (by rw[ac];omega);have j:=c;rw[T]at j;obtain⟨a',m,o⟩:=jf j (i:=A.length+(U1.length+(U2.length+1))+C.length+U1.length) (by simp only[ac,ar];omega);rw[f]at m;cases m;refine⟨⟨by omega,by omega⟩,a,f,v.1,o 0 _ rfl,v.2,o 1 _ rfl,⟨by omega,by omega⟩,a,f,u.1,k 0 _ rfl,u.2,k 1 _ rfl,⟨by omega,by omega⟩,a,f,?_⟩
   refine rH c v f (by rw[ac];omega) fun h2 E X=>⟨⟨by omega,by omega⟩,a,f,?_⟩
   rw[S]at E;refine rH E u f (by first|omega|(simp;done)|(simp;omega)) fun h3 Q W=>?_
   rw[Z]at Q;rw[mg (n:=U1.length+(U2.length+1)) (by omega) (by omega)];exact R ((U1++ [u],U2),V1++ [v],V2) _ _ ⟨by simp,by simp,by simp,by simp[N],Q,(F.trans X fun b w=>.inl w).trans W fun b w=>.inl w⟩ (by simp)
 ·simp only[ac]at x
  have P:U2= []:=aA.1 (by omega);have h2:V2= []:=aA.1 (by rw[P,aM]at e;omega);subst P h2;simp only[aL,cN]at c G;exact G h' c F
theorem RS{M:Nat→Prop}{h:ad}{s:SliceV}{A U V B:List (Pr)}(Q:OwnS ey 2 al M h s (A++(U++(V++B))))(J:s.len≤1000000000)(S:0<U.length)(Y:0<V.length){a m b:Nat}(Z:a=A.length)(hm:m=A.length+U.length)(q:b=A.length+U.length+V.length){z:Value}{K:Unit→ad→Prop}
  (W:∀h',OwnS ey 2 al M h' s (A++(V++(U++B)))→Upd M h h'→K () h'):HC PG ix [.slice s.a s.len s.cap,.int .i64 a,.int .i64 m,.int .i64 b,z] [] K h:=by
 subst Z hm q;refine sB s A.length (A.length+U.length:Nat) (A.length+U.length+V.length:Nat) z ?_;unfold ma;have w:=Q.len;simp only[ac]at w;have D:IntKind.wrap .i64 (((A.length+U.length:Nat):Int)-(A.length:Int))=(U.length:Int):=by rw[eJ (by omega)];omega
 have E:IntKind.wrap .i64 (((A.length+U.length+V.length:Nat):Int)-((A.length+U.length:Nat):Int))=(V.length:Int):=by rw[eJ (by omega)];omega
 rw[D,E];refine LoopP.ghost (fun(g:(List (Pr)×List (Pr))×List (Pr)×List (Pr)) (t:Int×Int) h'=>t.1=(g.1.2.length:Int)∧t.2=(g.2.1.length:Int)∧0<g.1.2.length∧0<g.2.1.length∧A.length+U.length=g.1.1.length+g.1.2.length∧g.1.1++(g.2.1++(g.1.2++g.2.2))=A++(V++(U++B))∧OwnS ey 2 al M h' s (g.1.1++(g.1.2++(g.2.1++g.2.2)))∧Upd M h h') (fun g=>g.1.2.length+g.2.1.length) ((A,U),V,B)
  ⟨rfl,rfl,S,Y,rfl,rfl,Q,Upd.refl _ _⟩ ?_
 rintro I ⟨⟨A',U'⟩,V',f⟩ ⟨ti,tj⟩ h' ⟨D,E,N,L,k,e,c,F⟩ P;simp only at D E N L k e c;subst D E;have d:=c.len;simp only[ac]at d;have H:((A.length+U.length:Nat):Int)=((A'.length+U'.length:Nat):Int):=by omega
 rw[H];have R:IntKind.wrap .i64 (((A'.length+U'.length:Nat):Int)-(U'.length:Int))=(A'.length:Int):=by rw[eJ (by omega)];omega
 simp only;rw[R];refine CondP.intro (fun i=>?_) fun u=>?_
 ·have i:(U'.length:Int)≠(V'.length:Int):=by simpa using i
  refine ax (fun v=>?_) fun T=>?_
  ·
   have v:V'.length<U'.length:=by omega
   obtain⟨U1,U2,rfl,j⟩:∃U1 U2,U'=U1++U2∧U1.length=V'.length:=⟨U'.take V'.length,U'.drop V'.length,(aO ..).symm,by rw[aQ];omega⟩
   simp only[ac]at v d k i R;have C:A'++((U1++U2)++(V'++f))=A'++(U1++(U2++(V'++f))):=by simp
   have X:A'++(V'++(U2++(U1++f)))=(A'++V')++(U2++(U1++f)):=by simp
   rw[C]at c;refine xL c J j rfl (b:=A'.length+(U1++U2).length) (by simp only[ac];omega) (n:=V'.length) j.symm fun h2 o y=>?_
   rw[X]at o;have p:IntKind.wrap .i64 (((U1++U2).length:Int)-(V'.length:Int))=(U2.length:Int):=by rw[ac,eJ (by omega)];omega
   rw[p];refine P ((A'++V',U2),U1,f) _ _ ⟨rfl,by simp only;omega,by simp only;omega,by simp only;omega,by simp only[ac];omega,?_,o,F.trans y fun b q=>.inl q⟩ (by simp only[ac];omega)
   rw[←e];simp
  ·have O:U'.length<V'.length:=by omega
   obtain⟨V1,V2,rfl,j⟩:∃V1 V2,V'=V1++V2∧V2.length=U'.length:=⟨V'.take (V'.length-U'.length),V'.drop (V'.length-U'.length),(aO ..).symm,by rw[aV];omega⟩
   simp only[ac]at O d i;have p:IntKind.wrap .i64 ((IntKind.wrap .i64 (((A'.length+U'.length:Nat):Int)+((V1++V2).length:Int)))-(U'.length:Int))=((A'.length+U'.length+V1.length:Nat):Int):=by
    rw[ac,eJ (x:=((A'.length+U'.length:Nat):Int)+((V1.length+V2.length:Nat):Int)) (by omega),eJ (by omega)];omega
   rw[p];have C:A'++(U'++((V1++V2)++f))=A'++(U'++(V1++(V2++f))):=by simp
   rw[C]at c;refine xL c J j.symm rfl rfl rfl fun h2 o y=>?_
   have G:IntKind.wrap .i64 (((V1++V2).length:Int)-(U'.length:Int))=(V1.length:Int):=by rw[ac,eJ (by omega)];omega
   rw[G];refine P ((A',V2),V1,U'++f) _ _ ⟨by simp only;omega,rfl,by simp only;omega,by simp only;omega,by simp only;omega,?_,o,F.trans y fun b q=>.inl q⟩ (by simp only[ac];omega)
   rw[←e];simp
 ·have u:(U'.length:Int)=(V'.length:Int):=by simpa using u
  have C:A'++(U'++(V'++f))=A'++(U'++([]++(V'++f))):=by simp
  rw[C]at c;refine xL c J (by omega) rfl (b:=A'.length+U'.length) (by simp) rfl fun h2 o y=>?_
  rw[cN,e]at o;exact W h2 o (F.trans y fun b q=>.inl q)
theorem AL{lt:Pr→Pr→Bool}(w:WO lt){M:Nat→Prop}{Iv:ad→Prop}{C:Value}(hc:Cmp lt ey M Iv C){h:ad}{s:SliceV}{A S B:List (Pr)}(ho:OwnS ey 2 al M h s (A++(S++B)))(hi:Iv h)(hn:s.len≤1000000000){a b:Nat}(c:a=A.length)(Q:b=A.length+S.length){K:Unit→ad→Prop}
  (hk:∀h' R,OwnS ey 2 al M h' s (A++(R++B))→St lt S R→Upd M h h'→K () h'):HC PG eB [.slice s.a s.len s.cap,.int .i64 a,.int .i64 b,C] [] K h:=by
 subst c Q;refine oK s A.length (A.length+S.length:Nat) C ?_;unfold jC bE bT az iU jR rC ga;have j:=ho.len;simp only[ac]at j;have ea:IntKind.wrap .i64 ((A.length:Int)+1)=((A.length+1:Nat):Int):=by rw[eJ (by omega)];omega
 rw[ea];refine LoopP.ghost (fun(g:List (Pr)×List (Pr)×List (Pr)) (t:Int) h'=>t=((A.length+max 1 g.1.length:Nat):Int)∧S=g.1++g.2.2∧(g.1= []→g.2.2= [])∧St lt g.1 g.2.1∧OwnS ey 2 al M h' s (A++(g.2.1++(g.2.2++B)))∧Upd M h h') (fun g=>g.2.2.length) (S.take 1,S.take 1,S.drop 1)
  ⟨?_,(aO ..).symm,fun e=>?_,⟨Eqf.rfl _,?_⟩,by rw[←aq (S.take 1),aO];exact ho,Upd.refl _ _⟩ ?_
 ·simp only[aQ];omega
 ·have:=congrArg fP e
  simp only[aQ,aM]at this;exact aA.1 (by simp only[aV];omega)
 ·match S with
  | []=>exact Srt.nil
  |x::S=>exact Srt.one x
 rintro I ⟨S1,R1,T⟩ t h' ⟨H,O,m,k,u,hu⟩ hI;simp only at H O m k u;subst H O;simp only[ac]at j;have hR1:=k.eqf.len;refine ax (fun D=>?_) fun X=>?_
 ·simp only[ac]at D
  have hS1:S1≠[]:=fun e=>by
   have:=m e;subst e;subst this;simp only[aM]at D;omega
  have hS1l:0<S1.length:=iR.2 hS1;match T with
  | []=>simp only[aM]at D;omega
  |x::T=>
   have F:A.length+max 1 S1.length=A.length+S1.length:=by omega
   rw[F];refine LoopP.ghost (fun(g:List (Pr)×List (Pr)) (t:Int) h2=>t=((A.length+g.1.length:Nat):Int)∧R1=g.1++g.2∧(∀y∈g.2,lt x y=true)∧OwnS ey 2 al M h2 s (A++(g.1++(x::(g.2++(T++B)))))∧Upd M h h2) (fun g=>g.1.length) (R1,[])
    ⟨by simp only;omega,by simp,fun y n=>(by cases n),by simpa using u,hu⟩ ?_
   rintro I2 ⟨L,G⟩ t2 h2 ⟨H,O,Z,f,v⟩ W;simp only at H O Z f;subst H O;simp only[ac]at hR1;simp only[ar]at j;refine Join.intro (fun t h3=>Upd M h h3∧OwnS ey 2 al M h3 s (A++(L++(x::(G++(T++B)))))∧(t=true→∃L' y,L=L'++ [y]∧lt x y=true)∧(t=false→∀y∈L,lt x y=false)) (fun Rj U=>?_) ?_
   ·refine ax (fun hgt=>?_) fun hle=>?_
    ·rcases Et L with rfl|⟨L',y,rfl⟩
     ·simp only[aM]at hgt;omega
     have o:(L'++ [y]).length=L'.length+1:=by simp
     have N:IntKind.wrap .i64 (((A.length+(L'++ [y]).length:Nat):Int)-1)=((A.length+L'.length:Nat):Int):=by rw[o,eJ (by omega)];omega
     rw[N];have P:A++((L'++ [y])++(x::(G++(T++B))))=(A++L')++y::(x::(G++(T++B))):=by simp
     have Y:A++((L'++ [y])++(x::(G++(T++B))))=(A++(L'++ [y]))++x::(G++(T++B)):=by simp
     have o3:=f;have E:=f;rw[P]at o3;rw[Y]at E;obtain⟨a,c,n⟩:=jf o3 (i:=A.length+L'.length) (by first|omega|(simp;done)|(simp;omega))
     obtain⟨a',d,hx⟩:=jf E (i:=A.length+(L'++ [y]).length) (by first|omega|(simp;done)|(simp;omega))
     rw[c]at d;cases d;refine⟨⟨by omega,by omega⟩,a,c,x.1,hx 0 _ rfl,x.2,hx 1 _ rfl,⟨by omega,by omega⟩,a,c,y.1,n 0 _ rfl,y.2,n 1 _ rfl,?_⟩
     refine hc.call x y (hc.step v hi) fun h5 e V he=>?_
     rw[he];have ho5:=f.upd V fun _ _ h=>h
     refine U _ _ ⟨v.tr V.wide,ho5,fun h=>⟨L',y,rfl,h⟩,fun h z p=>?_⟩
     have hs:=k.srt.left;rcases bC.1 p with p|p
     ·exact w.ntr x y z h (hs.cross z p y (aD.2 rfl))
     ·rw[aD.1 p];exact h
    ·have hL:L= []:=aA.1 (by omega)
     exact U _ _ ⟨v,f,fun h=>(by cases h),fun _ y n=>(by rw[hL]at n;cases n)⟩
   ·rintro t3 h3 ⟨J,q,ht,hf⟩
    cases t3 with
    |true=>
     obtain⟨L',y,rfl,hxy⟩:=ht rfl;have o:(L'++ [y]).length=L'.length+1:=by simp
     refine aw.2 ?_;have N:IntKind.wrap .i64 (((A.length+(L'++ [y]).length:Nat):Int)-1)=((A.length+L'.length:Nat):Int):=by rw[o,eJ (by omega)];omega
     rw[N];have P:A++((L'++ [y])++(x::(G++(T++B))))=(A++L')++y::(x::(G++(T++B))):=by simp
     have Y:(A++L')++y::(x::(G++(T++B)))=(A++(L'++ [y]))++x::(G++(T++B)):=by simp
     have f3:(A++(L'++ [y]))++y::(G++(T++B))=(A++L')++y::(y::(G++(T++B))):=by simp
     have f4:(A++L')++x::(y::(G++(T++B)))=A++(L'++(x::((y::G)++(T++B)))):=by simp
     rw[P]at q;have E:=q;rw[Y]at E;obtain⟨a,c,n⟩:=jf q (i:=A.length+L'.length) (by first|omega|(simp;done)|(simp;omega))
     obtain⟨a',d,hx⟩:=jf E (i:=A.length+(L'++ [y]).length) (by first|omega|(simp;done)|(simp;omega))
     rw[c]at d;cases d;refine⟨⟨by omega,by omega⟩,a,c,y.1,n 0 _ rfl,y.2,n 1 _ rfl,⟨by omega,by omega⟩,a,c,x.1,hx 0 _ rfl,x.2,hx 1 _ rfl,⟨by omega,by omega⟩,a,c,?_⟩
     refine rH E y c (by first|omega|(simp;done)|(simp;omega)) fun h5 o5 V=>⟨⟨by omega,by omega⟩,a,c,?_⟩
     rw[f3]at o5;refine rH o5 x c (by first|omega|(simp;done)|(simp;omega)) fun h6 o6 k6=>?_
     rw[f4]at o6;refine W (L',y::G) _ _ ⟨rfl,by simp,fun z p=>?_,o6,(J.trans V fun b Q=>.inl Q).trans k6 fun b Q=>.inl Q⟩ (by simp only[o];omega)
     rcases aC.1 p with rfl|p
     ·exact hxy
     ·exact Z z p
    |false=>
     refine ag.2 ?_;have N:IntKind.wrap .i64 (((A.length+S1.length:Nat):Int)+1)=((A.length+max 1 (S1.length+1):Nat):Int):=by rw[eJ (by omega)];omega
     rw[N];refine hI (S1++ [x],L++x::G,T) _ _ ⟨by simp,by simp,fun e=>(by simp at e),Ny w k (hf rfl) Z,?_,J⟩ (by simp)
     have P:A++((L++x::G)++(T++B))=A++(L++(x::(G++(T++B)))):=by simp
     rw[P];exact q
 ·simp only[ac]at X
  have hT:T= []:=by
   rcases dY S1.length with h0|h0
   ·exact m (aA.1 h0)
   ·exact aA.1 (by omega)
  subst hT;rw[cN]at u;rw[aL]at hk;exact hk h' R1 u k hu
theorem DY{lt:Pr→Pr→Bool}(w:WO lt){M:Nat→Prop}{Iv:ad→Prop}{cmp:Value}(hc:Cmp lt ey M Iv cmp){s:SliceV}(hn:s.len≤1000000000):∀(n:Nat) {h:ad} {A U V B:List (Pr)},U.length+V.length≤n→OwnS ey 2 al M h s (A++(U++(V++B)))→Iv h→0<U.length→0<V.length→Srt lt U→Srt lt V→∀{a m b:Nat},a=A.length→m=A.length+U.length→b=A.length+U.length+V.length→∀{K:Unit→ad→Prop},
  (∀h' R,OwnS ey 2 al M h' s (A++(R++B))→St lt (U++V) R→Upd M h h'→K () h')→HC PG dg [.slice s.a s.len s.cap,.int .i64 a,.int .i64 m,.int .i64 b,cmp] [] K h:=by
 intro n;induction n with
 |zero=>intro h A U V B hl _ _ hU;omega
 |succ n ih=>
  intro h A U V B hl ho hi hU hV sU sV a m b ha hm N K hk;refine q9 s a m b cmp ?_;unfold lx bE bT az iU jR rC ga;have z:=ho.len;simp only[ac]at z;have e1:IntKind.wrap .i64 ((m:Int)-(a:Int))=(U.length:Int):=by rw[eJ (by omega)];omega
  have e2:IntKind.wrap .i64 ((b:Int)-(m:Int))=(V.length:Int):=by rw[eJ (by omega)];omega
  rw[e1,e2];refine CondP.intro (fun F=>?_) fun hmore=>?_
  ·have F:U.length=1:=by have:=eq_of_beq F;omega
   match U,F with
   | [u],_=>
   simp only[aK]at z hm N;refine LoopP.ghost (fun(g:Nat×Nat) (t:Int×Int) h'=>t.1=(g.1:Int)∧t.2=(g.2:Int)∧m≤g.1∧g.1≤g.2∧g.2≤b∧(∀q x,V[q]? =some x→m+q<g.1→lt x u=true)∧(∀q x,V[q]? =some x→g.2≤m+q→lt x u=false)∧OwnS ey 2 al M h' s (A++([u]++(V++B)))∧Upd M h h') (fun g=>g.2-g.1) (m,b)
    ⟨rfl,rfl,aj _,by simp only;omega,aj _,fun q x D h=>(by simp only at h;omega),fun q x D h=>(by have:=(bN.1 D).1;simp only at h;omega),ho,Upd.refl _ _⟩ ?_
   rintro I ⟨i,j⟩ ⟨ti,tj⟩ h' ⟨e1,e2,hmi,H,hjb,G,J,L,hu⟩ hI;simp only at e1 e2 hmi H hjb G J;subst e1 e2;refine ax (fun S=>?_) fun hge=>?_
   ·have S:i<j:=by have:(i:Int)<(j:Int):=S;omega
    refine⟨by decide,?_⟩;simp only[Bd];rw[H8 (by omega)];have hk1:(i+j)/2-m<V.length:=by omega
    have hk0:(i+j)/2=A.length+1+((i+j)/2-m):=by omega
    obtain⟨W,f,hx⟩:=Bx L (i:=(i+j)/2) (x:=V[(i+j)/2-m]) (Ym (U:= [u]) (k:=(i+j)/2-m) (by simp only[aK];omega) (af hk1));obtain⟨a2,C,hy⟩:=jf (P:=A) (x:=u) (Q:=V++B) L ha;rw[f]at C;cases C;have hVk:V[(i+j)/2-m]? =some V[(i+j)/2-m]:=af hk1;generalize V[(i+j)/2-m]=x at hx hVk;refine⟨⟨by omega,by omega⟩,W,f,x.1,hx 0 _ rfl,x.2,hx 1 _ rfl,⟨by omega,by omega⟩,W,f,u.1,hy 0 _ rfl,u.2,hy 1 _ rfl,?_⟩
    refine hc.call x u (hc.step hu hi) fun T e k5 he=>?_
    rw[he];have Z:=L.upd k5 fun _ _ h=>h
    have hu5:=hu.tr k5.wide;cases hxu:lt x u with
    |true=>
     refine aw.2 ?_;have ew:IntKind.wrap .i64 ((((i+j)/2:Nat):Int)+1)=(((i+j)/2+1:Nat):Int):=by rw[eJ (by omega)];omega
     rw[ew];refine hI ((i+j)/2+1,j) _ _ ⟨rfl,rfl,by simp only;omega,by simp only;omega,hjb,fun q y D hqi=>?_,J,Z,hu5⟩ (by simp only;omega)
     have hle:=uT w sV (i:=q) (j:=(i+j)/2-m) (by simp only at hqi;omega) D hVk;cases hyu:lt y u with
     |true=>rfl
     |false=>rw[w.ntr _ _ _ hle hyu]at hxu;cases hxu
    |false=>
     refine ag.2 ?_;refine hI (i,(i+j)/2) _ _ ⟨rfl,rfl,hmi,by simp only;omega,by simp only;omega,G,fun q y D hqi=>?_,Z,hu5⟩ (by simp only;omega)
     have hle:=uT w sV (i:=(i+j)/2-m) (j:=q) (by simp only at hqi;omega) hVk D;exact w.ntr _ _ _ hle hxu
   ·have H:i=j:=by have:¬(i:Int)<(j:Int):=hge;omega
    subst H;obtain⟨V1,V2,rfl,hV1⟩:∃V1 V2,V=V1++V2∧V1.length=i-m:=⟨V.take (i-m),V.drop (i-m),(aO ..).symm,by rw[aQ];omega⟩
    simp only[ac]at z N;have lo1:∀x∈V1,lt x u=true:=fun x hx=>by
     obtain⟨q,D,e⟩:=bQ hx;exact G q x (by rw[cy D,af D,e]) (by omega)
    have hi1:∀x∈V2,lt x u=false:=fun x hx=>by
     obtain⟨q,D,e⟩:=bQ hx;exact J (V1.length+q) x (by rw[aZ (by omega),ff,af D,e]) (by omega)
    have hst:=Nx w sV lo1 hi1;have f0:A++([u]++((V1++V2)++B))=A++([]++(u::(V1++(V2++B)))):=by simp
    rw[f0]at L;have ew:IntKind.wrap .i64 ((i:Int)-1)=((A.length+V1.length:Nat):Int):=by rw[eJ (by omega)];omega
    rw[ew];refine LoopP.ghost (fun(g:List (Pr)×List (Pr)) (t:Int) h2=>t=((A.length+g.1.length:Nat):Int)∧V1=g.1++g.2∧OwnS ey 2 al M h2 s (A++(g.1++(u::(g.2++(V2++B)))))∧Upd M h h2) (fun g=>g.2.length) ([],V1)
     ⟨by simp[ha],rfl,L,hu⟩ ?_
    rintro I2 ⟨G1,E⟩ t2 h2 ⟨e1,e2,o,O⟩ hI2;simp only at e1 e2 o;subst e1 e2;simp only[ac]at z N ew⊢;refine ax (fun S=>?_) fun hge=>?_
    ·match E with
     | []=>simp only[aM]at S;omega
     |g::E=>
      simp only[ar]at z;have ew1:IntKind.wrap .i64 (((A.length+G1.length:Nat):Int)+1)=((A.length+G1.length+1:Nat):Int):=by rw[eJ (by omega)];omega
      rw[ew1];have f1:A++(G1++(u::((g::E)++(V2++B))))=(A++G1)++u::(g::(E++(V2++B))):=by simp
      have f2:(A++G1)++u::(g::(E++(V2++B)))=(A++(G1++ [u]))++g::(E++(V2++B)):=by simp
      have f3:(A++G1)++g::(g::(E++(V2++B)))=(A++(G1++ [g]))++g::(E++(V2++B)):=by simp
      have f4:(A++(G1++ [g]))++u::(E++(V2++B))=A++((G1++ [g])++(u::(E++(V2++B)))):=by simp
      rw[f1]at o;have o3:=o;rw[f2]at o3;obtain⟨W,f,hy⟩:=jf o3 (i:=A.length+G1.length+1) (by first|omega|(simp;done)|(simp;omega))
      obtain⟨a2,C,hx⟩:=jf o (i:=A.length+G1.length) (by first|omega|(simp;done)|(simp;omega))
      rw[f]at C;cases C;refine⟨⟨by omega,by omega⟩,W,f,g.1,hy 0 _ rfl,g.2,hy 1 _ rfl,⟨by omega,by omega⟩,W,f,u.1,hx 0 _ rfl,u.2,hx 1 _ rfl,⟨by omega,by omega⟩,W,f,?_⟩
      refine rH o g f (by first|omega|(simp;done)|(simp;omega)) fun T o5 k5=>⟨⟨by omega,by omega⟩,W,f,?_⟩
      rw[f3]at o5;refine rH o5 u f (by first|omega|(simp;done)|(simp;omega)) fun h6 o6 k6=>?_
      rw[f4]at o6;exact hI2 (G1++ [g],E) _ _ ⟨by simp;omega,by simp,o6,(O.trans k5 fun b N=>.inl N).trans k6 fun b N=>.inl N⟩ (by simp)
    ·have hG:E= []:=aA.1 (by omega)
     subst hG;simp only[aL,cN]at o hst hk;refine hk h2 (G1++u::V2) ?_ hst O;have f1:A++((G1++u::V2)++B)=A++(G1++(u::(V2++B))):=by simp
     rw[f1];exact o
  refine CondP.intro (fun F=>?_) fun hmore2=>?_
  ·have F:V.length=1:=by have:=eq_of_beq F;omega
   match V,F with
   | [v],_=>
   simp only[aK]at z N;refine LoopP.ghost (fun(g:Nat×Nat) (t:Int×Int) h'=>t.1=(g.1:Int)∧t.2=(g.2:Int)∧a≤g.1∧g.1≤g.2∧g.2≤m∧(∀q x,U[q]? =some x→a+q<g.1→lt v x=false)∧(∀q x,U[q]? =some x→g.2≤a+q→lt v x=true)∧OwnS ey 2 al M h' s (A++(U++([v]++B)))∧Upd M h h') (fun g=>g.2-g.1) (a,m)
    ⟨rfl,rfl,aj _,by simp only;omega,aj _,fun q x D h=>(by simp only at h;omega),fun q x D h=>(by have:=(bN.1 D).1;simp only at h;omega),ho,Upd.refl _ _⟩ ?_
   rintro I ⟨i,j⟩ ⟨ti,tj⟩ h' ⟨e1,e2,hmi,H,hjb,G,J,L,hu⟩ hI;simp only at e1 e2 hmi H hjb G J;subst e1 e2;refine ax (fun S=>?_) fun hge=>?_
   ·have S:i<j:=by have:(i:Int)<(j:Int):=S;omega
    refine⟨by decide,?_⟩;simp only[Bd];rw[H8 (by omega)];have hk1:(i+j)/2-a<U.length:=by omega
    obtain⟨W,f,hx⟩:=Bx L (i:=(i+j)/2) (x:=U[(i+j)/2-a]) (UW (k:=(i+j)/2-a) (by omega) (af hk1));have f1:A++(U++([v]++B))=(A++U)++v::B:=by simp
    have o3:=L;rw[f1]at o3;obtain⟨a2,C,hy⟩:=jf o3 (i:=m) (by first|omega|(simp;done)|(simp;omega))
    rw[f]at C;cases C;have hVk:U[(i+j)/2-a]? =some U[(i+j)/2-a]:=af hk1;generalize U[(i+j)/2-a]=x at hx hVk;refine⟨⟨by omega,by omega⟩,W,f,v.1,hy 0 _ rfl,v.2,hy 1 _ rfl,⟨by omega,by omega⟩,W,f,x.1,hx 0 _ rfl,x.2,hx 1 _ rfl,?_⟩
    refine hc.call v x (hc.step hu hi) fun T e k5 he=>?_
    rw[he];have Z:=L.upd k5 fun _ _ h=>h
    have hu5:=hu.tr k5.wide;cases hxu:lt v x with
    |false=>
     refine aw.2 ?_;have ew:IntKind.wrap .i64 ((((i+j)/2:Nat):Int)+1)=(((i+j)/2+1:Nat):Int):=by rw[eJ (by omega)];omega
     rw[ew];refine hI ((i+j)/2+1,j) _ _ ⟨rfl,rfl,by simp only;omega,by simp only;omega,hjb,fun q y D hqi=>?_,J,Z,hu5⟩ (by simp only;omega)
     exact w.ntr _ _ _ hxu (uT w sU (i:=q) (j:=(i+j)/2-a) (by simp only at hqi;omega) D hVk)
    |true=>
     refine ag.2 ?_;refine hI (i,(i+j)/2) _ _ ⟨rfl,rfl,hmi,by simp only;omega,by simp only;omega,G,fun q y D hqi=>?_,Z,hu5⟩ (by simp only;omega)
     have hle:=uT w sU (i:=(i+j)/2-a) (j:=q) (by simp only at hqi;omega) hVk D;cases hvy:lt v y with
     |true=>rfl
     |false=>rw[w.ntr _ _ _ hvy hle]at hxu;cases hxu
   ·have H:i=j:=by have:¬(i:Int)<(j:Int):=hge;omega
    subst H;obtain⟨U1,U2,rfl,hU1⟩:∃U1 U2,U=U1++U2∧U1.length=i-a:=⟨U.take (i-a),U.drop (i-a),(aO ..).symm,by rw[aQ];omega⟩
    simp only[ac]at z N hm;have lo1:∀x∈U1,lt v x=false:=fun x hx=>by
     obtain⟨q,D,e⟩:=bQ hx;exact G q x (by rw[cy D,af D,e]) (by omega)
    have hi1:∀x∈U2,lt v x=true:=fun x hx=>by
     obtain⟨q,D,e⟩:=bQ hx;exact J (U1.length+q) x (by rw[aZ (by omega),ff,af D,e]) (by omega)
    have hst:=Pg w sU lo1 hi1;have f0:A++((U1++U2)++([v]++B))=A++(U1++(U2++(v::([]++B)))):=by simp
    rw[f0]at L;refine LoopP.ghost (fun(g:List (Pr)×List (Pr)) (t:Int) h2=>t=((A.length+U1.length+g.1.length:Nat):Int)∧U2=g.1++g.2∧OwnS ey 2 al M h2 s (A++(U1++(g.1++(v::(g.2++B)))))∧Upd M h h2) (fun g=>g.1.length) (U2,[])
     ⟨by simp only;omega,by simp,L,hu⟩ ?_
    rintro I2 ⟨G1,E⟩ t2 h2 ⟨e1,e2,o,O⟩ hI2;simp only at e1 e2 o;subst e1 e2;simp only[ac]at z N hm⊢;refine ax (fun hgt=>?_) fun hle=>?_
    ·rcases Et G1 with rfl|⟨G1',g,rfl⟩
     ·simp only[aM]at hgt;omega
     simp only[ac,aK]at z N hm hgt⊢;have ew1:IntKind.wrap .i64 (((A.length+U1.length+(G1'.length+1):Nat):Int)-1)=((A.length+U1.length+G1'.length:Nat):Int):=by rw[eJ (by omega)];omega
     rw[ew1];have f1:A++(U1++((G1'++ [g])++(v::(E++B))))=(A++(U1++(G1'++ [g])))++v::(E++B):=by simp
     have f2:(A++(U1++(G1'++ [g])))++v::(E++B)=(A++(U1++G1'))++g::(v::(E++B)):=by simp
     have f3:(A++(U1++(G1'++ [g])))++g::(E++B)=(A++(U1++G1'))++g::(g::(E++B)):=by simp
     have f4:(A++(U1++G1'))++v::(g::(E++B))=A++(U1++(G1'++(v::((g::E)++B)))):=by simp
     rw[f1]at o;have o3:=o;rw[f2]at o3;obtain⟨W,f,hy⟩:=jf o3 (i:=A.length+U1.length+G1'.length) (by first|omega|(simp;done)|(simp;omega))
     obtain⟨a2,C,hx⟩:=jf o (i:=A.length+U1.length+(G1'.length+1)) (by first|omega|(simp;done)|(simp;omega))
     rw[f]at C;cases C;refine⟨⟨by omega,by omega⟩,W,f,g.1,hy 0 _ rfl,g.2,hy 1 _ rfl,⟨by omega,by omega⟩,W,f,v.1,hx 0 _ rfl,v.2,hx 1 _ rfl,⟨by omega,by omega⟩,W,f,?_⟩
     refine rH o g f (by first|omega|(simp;done)|(simp;omega)) fun T o5 k5=>⟨⟨by omega,by omega⟩,W,f,?_⟩
     rw[f3]at o5;refine rH o5 v f (by first|omega|(simp;done)|(simp;omega)) fun h6 o6 k6=>?_
     rw[f4]at o6;exact hI2 (G1',g::E) _ _ ⟨rfl,by simp,o6,(O.trans k5 fun b N=>.inl N).trans k6 fun b N=>.inl N⟩ (by simp)
    ·have hG:G1= []:=aA.1 (by omega)
     subst hG;simp only[cN]at o hst hk;refine hk h2 (U1++v::E) ?_ hst O;have f1:A++((U1++v::E)++B)=A++(U1++(v::(E++B))):=by simp
     rw[f1];exact o
  have hU2:2≤U.length:=by
   have:(U.length:Int)≠1:=by simpa using hmore
   omega
  have hV2:2≤V.length:=by
   have:(V.length:Int)≠1:=by simpa using hmore2
   omega
  refine⟨by decide,?_⟩;simp only[Bd];rw[H8 (i:=a) (j:=b) (by omega)];obtain⟨d,hmid⟩:∃d,(a+b)/2=d:=⟨_,rfl⟩;rw[hmid];have em:IntKind.wrap .i64 ((d:Int)+(m:Int))=((d+m:Nat):Int):=by rw[eJ (by omega)];omega
  rw[em];have ep:IntKind.wrap .i64 (((d+m:Nat):Int)-1)=((d+m-1:Nat):Int):=by rw[eJ (by omega)];omega
  rw[ep];refine Join.intro (fun t h'=>h'=h∧∃s0 r0:Nat,t=((s0:Int),(r0:Int))∧a≤s0∧s0≤r0∧r0≤m∧r0≤d∧d+m≤b+s0∧(r0=d∨r0=m)∧(s0=a∨s0+b=d+m)) (fun Rj Y=>?_) ?_
  ·refine ax (fun hgt=>?_) fun hle=>?_
   ·have es:IntKind.wrap .i64 (((d+m:Nat):Int)-(b:Int))=((d+m-b:Nat):Int):=by rw[eJ (by omega)];omega
    rw[es];exact Y _ _ ⟨rfl,_,_,rfl,by omega,by omega,by omega,by omega,by omega,by omega,by omega⟩
   ·exact Y _ _ ⟨rfl,_,_,rfl,by omega,by omega,by omega,by omega,by omega,by omega,by omega⟩
  rintro t h' ⟨rfl,s0,r0,rfl,hs0,hsr,hrm,hrd,hsb,hr0,hs00⟩;refine LoopP.ghost (fun(g:Nat×Nat) (t:Int×Int) h2=>t.1=(g.1:Int)∧t.2=(g.2:Int)∧s0≤g.1∧g.1≤g.2∧g.2≤r0∧(∀c x y,s0≤c→c<g.1→U[c-a]? =some x→V[d-1-c]? =some y→lt y x=false)∧(∀c x y,g.2≤c→c<r0→U[c-a]? =some x→V[d-1-c]? =some y→lt y x=true)∧OwnS ey 2 al M h2 s (A++(U++(V++B)))∧Upd M h' h2) (fun g=>g.2-g.1) (s0,r0)
   ⟨rfl,rfl,aj _,hsr,aj _,fun c x y h1 h2=>(by simp only at h2;omega),fun c x y h1 h2=>(by simp only at h1;omega),ho,Upd.refl _ _⟩ ?_
  rintro I ⟨i,j⟩ ⟨ti,tj⟩ h2 ⟨e1,e2,hsi,H,hjr,G,J,o,O⟩ hI;simp only at e1 e2 hsi H hjr G J;subst e1 e2;refine ax (fun S=>?_) fun hge=>?_
  ·have S:i<j:=by have:(i:Int)<(j:Int):=S;omega
   refine⟨by decide,?_⟩;rw[H8 (i:=i) (j:=j) (by omega)];obtain⟨c,hcc⟩:∃c,(i+j)/2=c:=⟨_,rfl⟩;rw[hcc];have hci:i≤c:=by omega
   have hcj:c<j:=by omega
   have eq:IntKind.wrap .i64 (((d+m-1:Nat):Int)-(c:Int))=((d+m-1-c:Nat):Int):=by rw[eJ (by omega)];omega
   rw[eq];have hk1:c-a<U.length:=by omega
   have hk2:d-1-c<V.length:=by omega
   obtain⟨W,f,hx⟩:=Bx o (i:=c) (x:=U[c-a]) (UW (k:=c-a) (by omega) (af hk1));obtain⟨a2,C,hy⟩:=Bx o (i:=d+m-1-c) (x:=V[d-1-c]) (Ym (k:=d-1-c) (by omega) (af hk2));rw[f]at C;cases C;have hUc:U[c-a]? =some U[c-a]:=af hk1;have hVc:V[d-1-c]? =some V[d-1-c]:=af hk2;generalize U[c-a]=x at hx hUc
   generalize V[d-1-c]=y at hy hVc;refine⟨⟨by omega,by omega⟩,W,f,y.1,hy 0 _ rfl,y.2,hy 1 _ rfl,⟨by omega,by omega⟩,W,f,x.1,hx 0 _ rfl,x.2,hx 1 _ rfl,?_⟩
   refine hc.call y x (hc.step O hi) fun T e k5 he=>?_
   rw[he];have Z:=o.upd k5 fun _ _ h=>h
   have hu5:=O.tr k5.wide;cases hyx:lt y x with
   |false=>
    refine aw.2 ?_;have ew:IntKind.wrap .i64 ((c:Int)+1)=((c+1:Nat):Int):=by rw[eJ (by omega)];omega
    rw[ew];refine hI (c+1,j) _ _ ⟨rfl,rfl,by simp only;omega,by simp only;omega,hjr,fun c' x' y' h1 h2 hx' hy'=>?_,J,Z,hu5⟩ (by simp only;omega)
    simp only at h2;have q1:=uT w sU (i:=c'-a) (j:=c-a) (by omega) hx' hUc;have q2:=uT w sV (i:=d-1-c) (j:=d-1-c') (by omega) hVc hy';exact w.ntr _ _ _ (w.ntr _ _ _ q2 hyx) q1
   |true=>
    refine ag.2 ?_;refine hI (i,c) _ _ ⟨rfl,rfl,hsi,hci,by simp only;omega,G,fun c' x' y' h1 h2 hx' hy'=>?_,Z,hu5⟩ (by simp only;omega)
    simp only at h1;have q1:=uT w sU (i:=c-a) (j:=c'-a) (by omega) hUc hx';have q2:=uT w sV (i:=d-1-c') (j:=d-1-c) (by omega) hy' hVc;cases hyx':lt y' x' with
    |true=>rfl
    |false=>rw[w.ntr _ _ _ (w.ntr _ _ _ q2 hyx') q1]at hyx;cases hyx
  have H:i=j:=by have:¬(i:Int)<(j:Int):=hge;omega
  subst H;have en:IntKind.wrap .i64 (((d+m:Nat):Int)-(i:Int))=((d+m-i:Nat):Int):=by rw[eJ (by omega)];omega
  simp only;rw[en];obtain⟨U1,U2,eU,hU1⟩:∃U1 U2,U=U1++U2∧U1.length=i-a:=⟨U.take (i-a),U.drop (i-a),(aO ..).symm,by rw[aQ];omega⟩
  obtain⟨V1,V2,eV,hV1⟩:∃V1 V2,V=V1++V2∧V1.length=d-i:=⟨V.take (d-i),V.drop (d-i),(aO ..).symm,by rw[aQ];omega⟩
  have c1:∀v∈V1,∀u∈U2,lt v u=true:=fun v hv u hu=>by
   obtain⟨q,D,e⟩:=bQ hv;obtain⟨p,hp,e'⟩:=bQ hu;have hlU:U.length=U1.length+U2.length:=by rw[eU,ac]
   have n1:0<U2.length:=by omega
   have n2:d-1-i<V1.length:=by omega
   have gx:U[i-a]? =some (U2[0]'n1):=by rw[eU,aZ (by omega),←hU1,gA,af (by omega)]
   have gy:V[d-1-i]? =some (V1[d-1-i]'n2):=by rw[eV,cy (by omega),af (by omega)]
   have hQ:=J i _ _ (aj _) (by omega) gx gy;have q1:=uT w sU (i:=i-a) (j:=i-a+p) (by omega) gx (by rw[eU,aZ (by omega),←hU1,ff,af hp,e']);have q2:=uT w sV (i:=q) (j:=d-1-i) (by omega) (by rw[eV,cy D,af D,e]) gy;cases hvu:lt v u with
   |true=>rfl
   |false=>rw[w.ntr _ _ _ (w.ntr _ _ _ q2 hvu) q1]at hQ;cases hQ
  have c2:∀u∈U1,∀v∈V2,lt v u=false:=fun u hu v hv=>by
   obtain⟨p,hp,e'⟩:=bQ hu;obtain⟨q,D,e⟩:=bQ hv;have hlV:V.length=V1.length+V2.length:=by rw[eV,ac]
   have n1:i-1-a<U1.length:=by omega
   have n2:0<V2.length:=by omega
   have gx:U[i-1-a]? =some (U1[i-1-a]'n1):=by rw[eU,cy (by omega),af (by omega)]
   have gy:V[d-1-(i-1)]? =some (V2[0]'n2):=by rw[eV,aZ (by omega),show d-1-(i-1)-V1.length=0 by omega,af (by omega)]
   have hQ:=G (i-1) _ _ (by omega) (by omega) gx gy;have q1:=uT w sU (i:=p) (j:=i-1-a) (by omega) (by rw[eU,cy hp,af hp,e']) gx;have q2:=uT w sV (i:=d-i) (j:=d-i+q) (by omega) (by rw[eV,aZ (by omega),hV1,gA,af (by omega)]) (by rw[eV,aZ (by omega),hV1,ff,af D,e])
   have gy2:V[d-i]? =some (V2[0]'n2):=by rw[eV,aZ (by omega),hV1,gA,af (by omega)]
   exact w.ntr _ _ _ (w.ntr _ _ _ q2 hQ) q1
  subst eU eV;simp only[ac]at z hU hV hl hm N hU2 hV2;have sA1:=sU.left;have sA2:=sU.right;have sB1:=sV.left;have sB2:=sV.right;refine Join.intro (fun _ h3=>OwnS ey 2 al M h3 s (A++(U1++(V1++(U2++(V2++B)))))∧Upd M h' h3) (fun Rj Y=>?_) ?_
  ·have f1:A++((U1++U2)++((V1++V2)++B))=(A++U1)++(U2++(V1++(V2++B))):=by simp
   have f2:(A++U1)++(V1++(U2++(V2++B)))=A++(U1++(V1++(U2++(V2++B)))):=by simp
   refine Join.intro (fun t h3=>h3=h2∧(t=true↔0<U2.length∧0<V1.length)) (fun Rk X=>?_) ?_
   ·refine ax (fun h=>X _ _ ⟨rfl,?_⟩) fun h=>X _ _ ⟨rfl,⟨fun h=>(by cases h),fun h=>(by omega)⟩⟩
    rw[decide_eq_true_iff];constructor
    ·intro h;constructor<;>omega
    ·rintro⟨h1,h2⟩;omega
   ·rintro t h3 ⟨rfl,ht⟩
    cases t with
    |true=>
     obtain⟨p1,p2⟩:=ht.1 rfl;rw[f1]at o;refine aw.2 (RS o hn p1 p2 (by rw[ac];omega) (by rw[ac];omega) (by rw[ac];omega) fun h4 o4 k4=>Y _ _ ⟨?_,O.trans k4 fun b N=>.inl N⟩)
     rw[f2]at o4;exact o4
    |false=>
     have hz:U2= []∨V1= []:=by
      rcases dY U2.length with h|h
      ·exact .inl (aA.1 h)
      ·rcases dY V1.length with h3|h3
       ·exact .inr (aA.1 h3)
       ·have:=ht.2 ⟨h,h3⟩;cases this
     refine ag.2 (Y _ _ ⟨?_,O⟩);rw[f1]at o;rw[←f2];rcases hz with rfl|rfl
     ·exact o
     ·exact o
  rintro _ h3 ⟨o3,k3⟩;refine Join.intro (fun _ h4=>∃R1,OwnS ey 2 al M h4 s (A++(R1++(U2++(V2++B))))∧St lt (U1++V1) R1∧Upd M h' h4) (fun Rj Y=>?_) ?_
  ·refine Join.intro (fun t h4=>h4=h3∧(t=true↔0<U1.length∧0<V1.length)) (fun Rk X=>?_) ?_
   ·refine ax (fun h=>X _ _ ⟨rfl,?_⟩) fun h=>X _ _ ⟨rfl,⟨fun h=>(by cases h),fun h=>(by omega)⟩⟩
    rw[decide_eq_true_iff];constructor
    ·intro h;constructor<;>omega
    ·rintro⟨h1,h2⟩;omega
   ·rintro t h4 ⟨rfl,ht⟩
    cases t with
    |true=>
     obtain⟨p1,p2⟩:=ht.1 rfl;refine aw.2 (ih (by omega) o3 (hc.step k3 hi) p1 p2 sA1 sB1 ha (by omega) (by omega) fun T R1 o5 s5 k5=>Y _ _ ⟨R1,o5,s5,k3.trans k5 fun b N=>.inl N⟩)
    |false=>
     refine ag.2 (Y _ _ ⟨U1++V1,by simpa using o3,⟨Eqf.rfl _,?_⟩,k3⟩)
     rcases dY U1.length with h|h
     ·rw[aA.1 h];exact sB1
     ·rcases dY V1.length with T|T
      ·rw[aA.1 T,aL];exact sA1
      ·have:=ht.2 ⟨h,T⟩;cases this
  rintro _ h4 ⟨R1,o4,s1,k4⟩;have hR1:=s1.eqf.len;rw[ac]at hR1;have fin:∀{T:ad} {R2:List (Pr)},OwnS ey 2 al M T s (A++(R1++(R2++B)))→St lt (U2++V2) R2→Upd M h' T→K () T:=fun{T R2} o5 s2 k5=>by
   refine hk T (R1++R2) ?_ (Vy w sU sV c1 c2 s1 s2) k5;rw[aq];exact o5
  refine Join.intro (fun t T=>T=h4∧(t=true↔0<U2.length∧0<V2.length)) (fun Rk X=>?_) ?_
  ·refine ax (fun h=>X _ _ ⟨rfl,?_⟩) fun h=>X _ _ ⟨rfl,⟨fun h=>(by cases h),fun h=>(by omega)⟩⟩
   rw[decide_eq_true_iff];constructor
   ·intro h;constructor<;>omega
   ·rintro⟨h1,h2⟩;omega
  ·rintro t T ⟨rfl,ht⟩
   have f1:A++(R1++(U2++(V2++B)))=(A++R1)++(U2++(V2++B)):=by simp
   cases t with
   |true=>
    obtain⟨p1,p2⟩:=ht.1 rfl;rw[f1]at o4;refine aw.2 (ih (by omega) o4 (hc.step k4 hi) p1 p2 sA2 sB2 (by rw[ac];omega) (by rw[ac];omega) (by rw[ac];omega) fun h6 R2 o6 s6 k6=>fin (R2:=R2) ?_ s6 (k4.trans k6 fun b N=>.inl N))
    rw[aq]at o6;exact o6
   |false=>
    refine ag.2 (fin (R2:=U2++V2) (by simpa using o4) ⟨Eqf.rfl _,?_⟩ k4);rcases dY U2.length with h|h
    ·rw[aA.1 h];exact sB2
    ·rcases dY V2.length with h6|h6
     ·rw[aA.1 h6,aL];exact sA2
     ·have:=ht.2 ⟨h,h6⟩;cases this
theorem RH{lt:Pr→Pr→Bool}(w:WO lt){M:Nat→Prop}{Iv:ad→Prop}{f:Value}(hc:Cmp lt ey M Iv f){h:ad}{s:SliceV}{xs:List (Pr)}(ho:OwnS ey 2 al M h s xs)(hi:Iv h)(hn:xs.length≤100000000){K:Unit→ad→Prop}
  (hk:∀h' R,OwnS ey 2 al M h' s R→St lt xs R→Upd M h h'→K () h'):HC PG dw [.slice s.a s.len s.cap,f] [] K h:=by
 refine hE s f ?_;unfold eR;refine l9 s (s.len:Int) f ?_;unfold iz;have m:=ho.len;have i:s.len≤1000000000:=by omega
 refine LoopP.ghost (fun(g:List (Pr)×List (Pr)×List (Pr)) (t:Int×Int) h'=>t.1=(g.2.1.length:Int)∧t.2=((g.2.1.length+20:Nat):Int)∧xs=g.1++g.2.2∧Eqf lt g.1 g.2.1∧Full lt 20 g.2.1∧OwnS ey 2 al M h' s (g.2.1++g.2.2)∧Upd M h h') (fun g=>g.2.2.length) ([],[],xs)
  ⟨rfl,rfl,rfl,Eqf.rfl _,Full.nil,ho,Upd.refl _ _⟩ ?_
 rintro I ⟨X,D,T⟩ ⟨ta,tb⟩ h1 ⟨k,N,G,d,j,Q,k1⟩ hI;simp only at k N G d j Q;subst k N G;have hXD:=d.len;simp only[ac]at m hn;refine ax (fun Z=>?_) fun E=>?_
 ·obtain⟨S,T',rfl,hS⟩:∃S T',T=S++T'∧S.length=20:=⟨T.take 20,T.drop 20,(aO ..).symm,by rw[aQ];omega⟩
  refine AL w hc Q (hc.step k1 hi) i rfl (b:=D.length+20) (by omega) fun h2 R y n J=>?_
  have z:=n.eqf.len;simp only[ac]at m hn;have L:IntKind.wrap .i64 (((D.length+20:Nat):Int)+20)=(((D++R).length+20:Nat):Int):=by rw[ac,eJ (by omega)];omega
  rw[L];refine hI (X++S,D++R,T') _ _ ⟨by simp only[ac];omega,rfl,by simp,d.app n.eqf,j.app (by omega) n.srt,by rw[aq];exact y,k1.trans J fun b x=>.inl x⟩ (by simp only[ac];omega)
 have U:D++T=D++(T++ []):=by simp
 rw[U]at Q;refine AL w hc Q (hc.step k1 hi) i rfl (b:=s.len) (by omega) fun h2 R y n J=>?_
 have z:=n.eqf.len;rw[aL]at y;have o:Eqf lt (X++T) (D++R):=d.app n.eqf;have O:Runs lt 20 (D++R):=j R (.last R (by omega) n.srt);have J:Upd M h h2:=k1.trans J fun b x=>.inl x
 generalize D++R=ys at y o O;generalize X++T=zs at o hk;have c:s.len=ys.length:=y.len;clear hI d j Q U E z;refine LoopP.ghost (fun(g:Nat×List (Pr)) (t:Int) h'=>t=(g.1:Int)∧0<g.1∧g.1≤200000000∧Runs lt g.1 g.2∧Eqf lt zs g.2∧OwnS ey 2 al M h' s g.2∧Upd M h h') (fun g=>s.len-g.1) (20,ys)
  ⟨rfl,by simp,by simp,O,o,y,J⟩ ?_
 rintro I2 ⟨a,ys⟩ t h3 ⟨k,hb0,hb1,hr,q,V,k3⟩ W;simp only at k hb0 hb1 hr q V;subst k;have c:s.len=ys.length:=V.len;refine ax (fun hlt=>?_) fun hge=>?_
 ·have hlt:a<s.len:=by omega
  have e0:IntKind.wrap .i64 (2*(a:Int))=((2*a:Nat):Int):=by rw[eJ (by omega)];omega
  rw[e0];refine LoopP.ghost (fun(g:List (Pr)×List (Pr)×List (Pr)) (t:Int×Int) h'=>t.1=(g.2.1.length:Int)∧t.2=((g.2.1.length+2*a:Nat):Int)∧ys=g.1++g.2.2∧Eqf lt g.1 g.2.1∧Full lt (2*a) g.2.1∧Runs lt a g.2.2∧OwnS ey 2 al M h' s (g.2.1++g.2.2)∧Upd M h h') (fun g=>g.2.2.length) ([],[],ys)
   ⟨rfl,by simp,rfl,Eqf.rfl _,Full.nil,hr,V,k3⟩ ?_
  rintro I3 ⟨Y,D,T⟩ ⟨ta,tb⟩ h4 ⟨k,N,G,d,j,e,C,F⟩ hI3;simp only at k N G d j e C;subst k N G;have hYD:=d.len;simp only[ac]at c;have ea:IntKind.wrap .i64 ((D.length:Int)+(a:Int))=((D.length+a:Nat):Int):=by rw[eJ (by omega)];omega
  simp only;rw[ea];refine ax (fun Z=>?_) fun E=>?_
  ·obtain⟨B1,T1,rfl,hB1,v,u⟩:=e.split (by omega)
   simp only[ac]at c;obtain⟨B2,T2,rfl,hB2,sB2,hr2⟩:=u.split (by omega);simp only[ac]at c;refine DY w hc i (B1.length+B2.length) (aj _) C (hc.step F hi) (by omega) (by omega) v sB2 rfl (by omega) (by omega) fun H R A p B=>?_
   have z:=p.eqf.len;rw[ac]at z;have L:IntKind.wrap .i64 (((D.length+2*a:Nat):Int)+((2*a:Nat):Int))=(((D++R).length+2*a:Nat):Int):=by rw[ac,eJ (by omega)];omega
   rw[L];refine hI3 (Y++(B1++B2),D++R,T2) _ _ ⟨by simp only[ac];omega,rfl,by simp,d.app p.eqf,j.app (by omega) p.srt,hr2,by rw[aq];exact A,F.trans B fun b x=>.inl x⟩ (by simp only[ac];omega)
  ·refine Join.intro (fun _ H=>∃R,Eqf lt T R∧Runs lt (2*a) R∧OwnS ey 2 al M H s (D++R)∧Upd M h H) (fun Rj P=>?_) ?_
   ·refine ax (fun hmn=>?_) fun hmn=>?_
    ·obtain⟨B1,T1,rfl,hB1,v,u⟩:=e.split (by omega)
     simp only[ac]at c;have U:D++(B1++T1)=D++(B1++(T1++ [])):=by simp
     rw[U]at C;refine DY w hc i (B1.length+T1.length) (aj _) C (hc.step F hi) (by omega) (by omega) v (u.short (by omega)) rfl (by omega) (by omega) fun H R A p B=>?_
     have z:=p.eqf.len;rw[ac]at z;rw[aL]at A;exact P _ _ ⟨R,p.eqf,.last R (by omega) p.srt,A,F.trans B fun b x=>.inl x⟩
    ·exact P _ _ ⟨T,Eqf.rfl _,.last T (by omega) (e.short (by omega)),C,F⟩
   ·rintro _ H ⟨R,q5,r5,A,B⟩
    have L:IntKind.wrap .i64 ((a:Int)*2)=((2*a:Nat):Int):=by rw[eJ (by omega)];omega
    rw[L];exact W (2*a,D++R) _ _ ⟨rfl,by simp only;omega,by simp only;omega,j R r5,q.tr (d.app q5),A,B⟩ (by simp only;omega)
 ·exact hk h3 ys V ⟨q,hr.short (by omega)⟩ k3
end Go.Proofs
namespace Go.Proofs
open Go Go.Lift
variable {z0:Hs}
theorem Qb{lt:Pr→Pr→Bool}(w:WO lt){M:Nat→Prop}{Iv:ad→Prop}{C:Value}(hc:Cmp lt (CX z0) M Iv C){h:ad}{s:SliceV}{A S B:List (Pr)}(ho:OwnS (CX z0) 3 ci M h s (A++(S++B)))(hi:Iv h)(hn:s.len≤1000000000){a b:Nat}(c:a=A.length)(Q:b=A.length+S.length){K:Unit→ad→Prop}
  (hk:∀h' R,OwnS (CX z0) 3 ci M h' s (A++(R++B))→St lt S R→Upd M h h'→K () h'):HC PG dG [.slice s.a s.len s.cap,.int .i64 a,.int .i64 b,C] [] K h:=by
 subst c Q;refine np s A.length (A.length+S.length:Nat) C ?_;unfold iC bE bT cg az jR ga O7 DS;have k:=ho.len;simp only[ac]at k;have ea:IntKind.wrap .i64 ((A.length:Int)+1)=((A.length+1:Nat):Int):=by rw[eJ (by omega)];omega
 rw[ea];refine LoopP.ghost (fun(g:List (Pr)×List (Pr)×List (Pr)) (t:Int) h'=>t=((A.length+max 1 g.1.length:Nat):Int)∧S=g.1++g.2.2∧(g.1= []→g.2.2= [])∧St lt g.1 g.2.1∧OwnS (CX z0) 3 ci M h' s (A++(g.2.1++(g.2.2++B)))∧Upd M h h') (fun g=>g.2.2.length) (S.take 1,S.take 1,S.drop 1)
  ⟨?_,(aO ..).symm,fun e=>?_,⟨Eqf.rfl _,?_⟩,by rw[←aq (S.take 1),aO];exact ho,Upd.refl _ _⟩ ?_
 ·simp only[aQ];omega
 ·have:=congrArg fP e
  simp only[aQ,aM]at this;exact aA.1 (by simp only[aV];omega)
 ·match S with
  | []=>exact Srt.nil
  |x::S=>exact Srt.one x
 rintro I ⟨S1,R1,T⟩ t h' ⟨H,O,n,m,u,hu⟩ hI;simp only at H O n m u;subst H O;simp only[ac]at k;have hR1:=m.eqf.len;refine ax (fun D=>?_) fun X=>?_
 ·simp only[ac]at D
  have hS1:S1≠[]:=fun e=>by
   have:=n e;subst e;subst this;simp only[aM]at D;omega
  have hS1l:0<S1.length:=iR.2 hS1;match T with
  | []=>simp only[aM]at D;omega
  |x::T=>
   have F:A.length+max 1 S1.length=A.length+S1.length:=by omega
   rw[F];refine LoopP.ghost (fun(g:List (Pr)×List (Pr)) (t:Int) h2=>t=((A.length+g.1.length:Nat):Int)∧R1=g.1++g.2∧(∀y∈g.2,lt x y=true)∧OwnS (CX z0) 3 ci M h2 s (A++(g.1++(x::(g.2++(T++B)))))∧Upd M h h2) (fun g=>g.1.length) (R1,[])
    ⟨by simp only;omega,by simp,fun y d=>(by cases d),by simpa using u,hu⟩ ?_
   rintro I2 ⟨L,G⟩ t2 h2 ⟨H,O,Z,j,v⟩ W;simp only at H O Z j;subst H O;simp only[ac]at hR1;simp only[ar]at k;refine Join.intro (fun t h3=>Upd M h h3∧OwnS (CX z0) 3 ci M h3 s (A++(L++(x::(G++(T++B)))))∧(t=true→∃L' y,L=L'++ [y]∧lt x y=true)∧(t=false→∀y∈L,lt x y=false)) (fun Rj U=>?_) ?_
   ·refine ax (fun hgt=>?_) fun hle=>?_
    ·rcases Et L with rfl|⟨L',y,rfl⟩
     ·simp only[aM]at hgt;omega
     have o:(L'++ [y]).length=L'.length+1:=by simp
     have N:IntKind.wrap .i64 (((A.length+(L'++ [y]).length:Nat):Int)-1)=((A.length+L'.length:Nat):Int):=by rw[o,eJ (by omega)];omega
     rw[N];have P:A++((L'++ [y])++(x::(G++(T++B))))=(A++L')++y::(x::(G++(T++B))):=by simp
     have Y:A++((L'++ [y])++(x::(G++(T++B))))=(A++(L'++ [y]))++x::(G++(T++B)):=by simp
     have o3:=j;have E:=j;rw[P]at o3;rw[Y]at E;obtain⟨a,c,d⟩:=jf o3 (i:=A.length+L'.length) (by first|omega|(simp;done)|(simp;omega))
     obtain⟨a',f,hx⟩:=jf E (i:=A.length+(L'++ [y]).length) (by first|omega|(simp;done)|(simp;omega))
     rw[c]at f;cases f;refine⟨⟨by omega,by omega⟩,a,c,x.1,hx 0 _ rfl,x.2,hx 1 _ rfl,gq z0 x.1,hx 2 _ rfl,⟨by omega,by omega⟩,a,c,y.1,d 0 _ rfl,y.2,d 1 _ rfl,gq z0 y.1,d 2 _ rfl,?_⟩
     refine hc.call x y (hc.step v hi) fun h5 e V he=>?_
     rw[he];have ho5:=j.upd V fun _ _ h=>h
     refine U _ _ ⟨v.tr V.wide,ho5,fun h=>⟨L',y,rfl,h⟩,fun h z p=>?_⟩
     have hs:=m.srt.left;rcases bC.1 p with p|p
     ·exact w.ntr x y z h (hs.cross z p y (aD.2 rfl))
     ·rw[aD.1 p];exact h
    ·have hL:L= []:=aA.1 (by omega)
     exact U _ _ ⟨v,j,fun h=>(by cases h),fun _ y d=>(by rw[hL]at d;cases d)⟩
   ·rintro t3 h3 ⟨J,q,ht,hf⟩
    cases t3 with
    |true=>
     obtain⟨L',y,rfl,hxy⟩:=ht rfl;have o:(L'++ [y]).length=L'.length+1:=by simp
     refine aw.2 ?_;have N:IntKind.wrap .i64 (((A.length+(L'++ [y]).length:Nat):Int)-1)=((A.length+L'.length:Nat):Int):=by rw[o,eJ (by omega)];omega
     rw[N];have P:A++((L'++ [y])++(x::(G++(T++B))))=(A++L')++y::(x::(G++(T++B))):=by simp
     have Y:(A++L')++y::(x::(G++(T++B)))=(A++(L'++ [y]))++x::(G++(T++B)):=by simp
     have f3:(A++(L'++ [y]))++y::(G++(T++B))=(A++L')++y::(y::(G++(T++B))):=by simp
     have f4:(A++L')++x::(y::(G++(T++B)))=A++(L'++(x::((y::G)++(T++B)))):=by simp
     rw[P]at q;have E:=q;rw[Y]at E;obtain⟨a,c,d⟩:=jf q (i:=A.length+L'.length) (by first|omega|(simp;done)|(simp;omega))
     obtain⟨a',f,hx⟩:=jf E (i:=A.length+(L'++ [y]).length) (by first|omega|(simp;done)|(simp;omega))
     rw[c]at f;cases f;refine⟨⟨by omega,by omega⟩,a,c,y.1,d 0 _ rfl,y.2,d 1 _ rfl,gq z0 y.1,d 2 _ rfl,⟨by omega,by omega⟩,a,c,x.1,hx 0 _ rfl,x.2,hx 1 _ rfl,gq z0 x.1,hx 2 _ rfl,⟨by omega,by omega⟩,a,c,?_⟩
     refine rH E y c (by first|omega|(simp;done)|(simp;omega)) fun h5 o5 V=>⟨⟨by omega,by omega⟩,a,c,?_⟩
     rw[f3]at o5;refine rH o5 x c (by first|omega|(simp;done)|(simp;omega)) fun h6 o6 k6=>?_
     rw[f4]at o6;refine W (L',y::G) _ _ ⟨rfl,by simp,fun z p=>?_,o6,(J.trans V fun b Q=>.inl Q).trans k6 fun b Q=>.inl Q⟩ (by simp only[o];omega)
     rcases aC.1 p with rfl|p
     ·exact hxy
     ·exact Z z p
    |false=>
     refine ag.2 ?_;have N:IntKind.wrap .i64 (((A.length+S1.length:Nat):Int)+1)=((A.length+max 1 (S1.length+1):Nat):Int):=by rw[eJ (by omega)];omega
     rw[N];refine hI (S1++ [x],L++x::G,T) _ _ ⟨by simp,by simp,fun e=>(by simp at e),Ny w m (hf rfl) Z,?_,J⟩ (by simp)
     have P:A++((L++x::G)++(T++B))=A++(L++(x::(G++(T++B)))):=by simp
     rw[P];exact q
 ·simp only[ac]at X
  have hT:T= []:=by
   rcases dY S1.length with h0|h0
   ·exact n (aA.1 h0)
   ·exact aA.1 (by omega)
  subst hT;rw[cN]at u;rw[aL]at hk;exact hk h' R1 u m hu
end Go.Proofs
namespace Go.Proofs
open Go Go.Lift
def StP(N:Nat):Prop:=∀{lt:Pr→Pr→Bool},WO lt→∀{M:Nat→Prop} {Iv:ad→Prop} {cmp:Value},Cmp lt ey M Iv cmp→∀{h:ad} {s:SliceV} {xs:List Pr},OwnS ey 2 al M h s xs→Iv h→xs.length≤N→∀{K:Unit→ad→Prop},
 (∀h' R,OwnS ey 2 al M h' s R→St lt xs R→Upd M h h'→K () h')→HC PG dw [.slice s.a s.len s.cap,cmp] [] K h
def StH(N:Nat):Prop:=∀{z0:Hs} {lt:Pr→Pr→Bool},WO lt→∀{M:Nat→Prop} {Iv:ad→Prop} {cmp:Value},Cmp lt (CX z0) M Iv cmp→∀{h:ad} {s:SliceV} {xs:List Pr},OwnS (CX z0) 3 ci M h s xs→Iv h→xs.length≤N→∀{K:Unit→ad→Prop},
 (∀h' R,OwnS (CX z0) 3 ci M h' s R→St lt xs R→Upd M h h'→K () h')→HC PG dR [.slice s.a s.len s.cap,cmp] [] K h
theorem stP:StP 100000000:=fun w _ _ _ hc _ _ _ c hi a _ b=>RH w hc c hi a b
theorem XC:StP 12:=by
 intro lt w M Iv a hc h s xs f hi q K k;refine hE s a ?_;unfold eR;refine l9 s (s.len:Int) a ?_;unfold iz;have i:=f.len;refine LoopP.ghost (fun(_:Unit) (t:Int×Int) h'=>t=(0,20)∧h'=h) (fun _=>0) () ⟨rfl,rfl⟩ ?_
 rintro I _ t v ⟨rfl,e⟩ p;rw[e];refine ax (fun c=>absurd c (by simp only;omega)) fun _=>?_
 have n:xs= []++(xs++ []):=by simp
 rw[n]at f;refine AL w hc f hi (by omega) rfl (b:=s.len) (by simp;omega) fun h2 R g m o=>?_
 rw[aL]at g;refine LoopP.ghost (fun(_:Unit) (t:Int) h'=>t=20∧h'=h2) (fun _=>0) () ⟨rfl,rfl⟩ ?_
 rintro u _ t x ⟨rfl,e⟩ j;rw[e];refine ax (fun d=>absurd d (by omega)) fun _=>?_
 exact k h2 R g m o
theorem XD:StH 12:=by
 intro y lt w M Iv a hc h s xs f hi q K k;refine kZ s a ?_;unfold fX;refine qt s (s.len:Int) a ?_;unfold kT;have i:=f.len;refine LoopP.ghost (fun(_:Unit) (t:Int×Int) h'=>t=(0,20)∧h'=h) (fun _=>0) () ⟨rfl,rfl⟩ ?_
 rintro I _ t v ⟨rfl,e⟩ p;rw[e];refine ax (fun c=>absurd c (by simp only;omega)) fun _=>?_
 have n:xs= []++(xs++ []):=by simp
 rw[n]at f;refine Qb w hc f hi (by omega) rfl (b:=s.len) (by simp;omega) fun h2 R g m o=>?_
 rw[aL]at g;refine LoopP.ghost (fun(_:Unit) (t:Int) h'=>t=20∧h'=h2) (fun _=>0) () ⟨rfl,rfl⟩ ?_
 rintro u _ t x ⟨rfl,e⟩ j;rw[e];refine ax (fun d=>absurd d (by omega)) fun _=>?_
 exact k h2 R g m o
end Go.Proofs
namespace Go.Proofs
open Go Go.Lift
def aad(a b:Pr):Bool:=decide (kl a.1 b.1)
theorem abI:WO aad:=by
 refine⟨fun a=>decide_eq_false (bZ _),fun a b h=>decide_eq_false fun k=>bZ _ (gD (of_decide_eq_true h) k),fun a b c h k=>decide_eq_false fun d=>?_⟩
 have h:=of_decide_eq_false h;have k:=of_decide_eq_false k;by_cases e:b.1=c.1
 ·rw[←e]at d;exact h d
 ·have f:=qQ k e
  exact h (gD d f)
theorem aaw(x a:Pr):M1 aad x a=decide (a.1=x.1):=by
 unfold M1 aad;by_cases e:a.1=x.1
 ·rw[decide_eq_true e,e,decide_eq_false (bZ _)];rfl
 ·rw[decide_eq_false e]
  by_cases h:kl a.1 x.1
  ·rw[decide_eq_true h];rfl
  ·rw[decide_eq_false h,decide_eq_true (qQ h e)];rfl
def mw(l:List Pr)(k:ByteArray):Option Pr:=(l.filter fun q=>decide (q.1=k)).getLast?
theorem vS(q:Pr)(l:List Pr)(k:ByteArray):mw (q::l) k=if q.1=k then some ((mw l k).getD q)else mw l k:=by
 unfold mw;rw[List.filter_cons];by_cases h:q.1=k
 ·rw[if_pos (decide_eq_true h),if_pos h,List.getLast?_cons]
 ·rw[if_neg (by simpa using h),if_neg h]
theorem Wd{l:List Pr}{k:ByteArray}{p:Pr}(h:mw l k=some p):p.1=k:=by
 unfold mw at h;have:=jQ h;exact of_decide_eq_true (di.1 this).2
theorem MF{l:List Pr}{k:ByteArray}{p:Pr}(h:mw l k=some p):p∈l:=by
 unfold mw at h;exact(di.1 (jQ h)).1
theorem SD{l:List Pr}{k:ByteArray}(h:∀q∈l,q.1≠k):mw l k=none:=by
 unfold mw;rw[List.filter_eq_nil_iff.2 fun q a=>by simpa using h q a];rfl
theorem Yu{l l':List Pr}(h:Eqf aad l l')(k:ByteArray):mw l' k=mw l k:=by
 unfold mw;have:=h.flt (k,k);have e:∀m:List Pr,m.filter (M1 aad (k,k))=m.filter fun q=>decide (q.1=k):=fun m=>List.filter_congr fun q _=>aaw (k,k) q
 rw[e,e]at this;rw[this]
def BO(l:List Pr):List Pr:=l.foldl (fun acc p=>iq p acc) []
theorem F5:∀(l:List Pr) {acc:List Pr},bM acc→bM (l.foldl (fun acc p=>iq p acc) acc)∧∀p,p∈l.foldl (fun acc p=>iq p acc) acc↔mw l p.1=some p∨(mw l p.1=none∧p∈acc)
 | [],acc,hr=>⟨hr,fun p=>by simp[mw]⟩
 |q::l,acc,hr=>by
  obtain⟨c,h2⟩:=F5 l (vM q hr);refine⟨c,fun p=>?_⟩
  rw[List.foldl_cons,h2 p,vS,uz hr];by_cases e:q.1=p.1
  ·rw[if_pos e]
   cases hl:mw l p.1 with
   |none=>
    simp only[Option.getD_none,Option.some.injEq,reduceCtorEq,false_or,false_and,or_false];constructor
    ·rintro⟨_,rfl|⟨_,h⟩⟩
     ·rfl
     ·exact absurd e.symm h
    ·rintro rfl;exact⟨trivial,.inl rfl⟩
   |some r=>simp
  ·rw[if_neg e]
   constructor
   ·rintro(h|⟨h,rfl|⟨a,_⟩⟩)
    ·exact .inl h
    ·exact absurd rfl e
    ·exact .inr ⟨h,a⟩
   ·rintro(h|⟨h,a⟩)
    ·exact .inl h
    ·exact .inr ⟨h,.inr ⟨a,fun b=>e b.symm⟩⟩
theorem FE(l:List Pr):bM (BO l):=(F5 l eI).1
theorem UM{l:List Pr}{p:Pr}:p∈BO l↔mw l p.1=some p:=by
 have:=(F5 l (acc:= []) eI).2 p;unfold BO;rw[this];simp
def oa:List Pr→List Pr
 | []=> []
 | [p]=> [p]
 |p::q::l=>if q.1=p.1 then oa (q::l)else p::oa (q::l)
theorem uB(p q:Pr)(l:List Pr):oa (p::q::l)=if q.1=p.1 then oa (q::l)else p::oa (q::l):=rfl
theorem CW:∀(l:List Pr),∀p∈oa l,p∈l
 | [],p,h=>h
 | [q],p,h=>h
 |q::r::l,p,h=>by
  rw[uB]at h;split at h
  ·exact aE _ (CW (r::l) p h)
  ·rcases aC.1 h with rfl|h
   ·exact au ..
   ·exact aE _ (CW (r::l) p h)
theorem ME:∀{l:List Pr},Srt aad l→bM (oa l)∧∀p,p∈oa l↔mw l p.1=some p
 | [],_=>⟨eI,fun p=>by simp[oa,mw]⟩
 | [q],_=>⟨List.pairwise_singleton ..,fun p=>by
   show p∈[q]↔_
   rw[aD,vS]
   by_cases e:q.1=p.1
   ·rw[if_pos e];simp[mw,eq_comm]
   ·rw[if_neg e];simp only[mw,List.filter_nil,List.getLast?_nil,reduceCtorEq,iff_false]
    rintro rfl;exact e rfl⟩
 |p::q::l,hs=>by
  have c:=aF.1 hs;obtain⟨g,h2⟩:=ME (l:=q::l) c.2;rw[uB];by_cases e:q.1=p.1
  ·rw[if_pos e]
   refine⟨g,fun r=>?_⟩
   rw[h2 r,vS p];by_cases a:p.1=r.1
   ·rw[if_pos a]
    have:mw (q::l) r.1≠none:=by
     rw[vS,if_pos (e.trans a)];simp
    cases hl:mw (q::l) r.1 with
    |none=>exact absurd hl this
    |some z=>simp
   ·rw[if_neg a]
  ·rw[if_neg e]
   have d:∀r∈q::l,kl p.1 r.1:=fun r f=>by
    have b:kl p.1 q.1:=by
     have:=of_decide_eq_false (c.1 q (au ..));exact qQ this e
    rcases aC.1 f with rfl|f
    ·exact b
    ·have:=of_decide_eq_false ((aF.1 c.2).1 r f)
     by_cases a:r.1=q.1
     ·rw[a];exact b
     ·exact gD b (qQ this a)
   refine⟨aF.2 ⟨fun r f=>d r (CW _ r f),g⟩,fun r=>?_⟩
   rw[aC,h2 r,vS p];by_cases a:p.1=r.1
   ·rw[if_pos a]
    have j:mw (q::l) r.1=none:=SD fun z i k=>by
     have:=d z i;rw[k,a]at this;exact bZ _ this
    rw[j];simp[eq_comm]
   ·rw[if_neg a]
    constructor
    ·rintro(rfl|h)
     ·exact absurd rfl a
     ·exact h
    ·exact .inr
theorem SC{l ys:List Pr}(h:St aad l ys):oa ys=BO l:=by
 obtain⟨a,h2⟩:=ME h.srt;refine yj a (FE l) fun p=>?_
 rw[h2 p,UM,Yu h.eqf]
theorem ac3(M:Nat→Prop):Cmp aad ey M (fun _=>True) (.func (.func uZ) #[] #[]):=by
 refine⟨fun a b h K _ f=>HV.mk' (HO a b ?_),fun _ h=>h⟩
 unfold Aa av wT rC;refine aP fun i b1 k1=>aP fun h2 b2 c=>?_
 have d:=c.get0 b1;refine⟨a.1,vc d 0,a.2,vc d 1,b.1,vc b2 0,?_⟩;refine PT fun g e=>f g _ ((k1.tr c).tr e) ?_
 unfold Lp aad;split
 ·rename_i h;rw[decide_eq_true h];rfl
 ·rename_i h
  rw[decide_eq_false h];split<;>rfl
theorem Jq:∀(l:List Pr),(oa l).length≤l.length
 | []=>aj _
 | [_]=>aj _
 |p::q::l=>by
  rw[uB];have:=Jq (q::l);split
  ·simp only[ar]at this⊢;omega
  ·simp only[ar]at this⊢;omega
theorem NV{h:ad}{t:TypeId}{p:Pr}{k:ad→Prop}(b:∀h',h'[h.size]? =some (.cells #[.string p.1,.string p.2] t (0,0))→Upd No h h'→k h'):
 At (hnew h [.string (⟨#[]⟩:ByteArray),.string (⟨#[]⟩:ByteArray)] t) (fun a=>rE a (some (ay h)) 0 [.string p.1,.string p.2]∧At (fS a (ay h) 0 [.string p.1,.string p.2]) k):=tl (p:=p) b
theorem IG{N:Nat}(st:StP N)(hN:N≤100000000){W W':Nat→Prop}{h:ad}{s:SliceV}{l:List Pr}(hs:Sl ey 2 W h s l)(hW':∀y,W' y→y<h.size)(hn:l.length≤N){K:SliceV→ad→Prop}
  (hk:∀s' h',Sl ey 2 W' h' s' (BO l)→s'.len≤s'.cap→Upd No h h'→K s' h'):HC PG qn [.slice s.a s.len s.cap] [.c .slice] K h:=by
 refine LM s ?_;unfold Cw bE bT nv az av lO iU ga;refine yA hs (by omega) fun E h1 S w=>?_
 refine st abI (ac3 _) S trivial (by omega) fun h2 ys B D U=>?_
 have hyl:=D.eqf.len;have z:Upd No h h2:=w.trans U fun x hx=>.inr hx
 have hlen:=B.len;have o:=SC D;have z1:=w.size;have hll:=Jq ys;refine LoopP.ghost (fun(g:List Pr×List Pr×List Pr) (t:Int×Int) h'=>t.1=(g.1.length:Int)∧t.2=((g.1.length+g.2.1.length:Nat):Int)∧g.1++oa g.2.2=oa ys∧g.1.length+g.2.1.length+g.2.2.length=ys.length∧OwnS ey 2 al (fun b=>h.size≤b) h' E (g.1++(g.2.1++g.2.2))∧Upd No h h') (fun g=>g.2.2.length) ([],[],ys)
  ⟨rfl,rfl,rfl,by simp,B,z⟩ ?_
 rintro I ⟨R,G,T⟩ ⟨tn,ti⟩ h3 ⟨e1,H,k,d,f,C⟩ hI;simp only at e1 H k d f;subst e1 H;refine ax (fun hlt=>?_) fun hge=>?_
 ·match T with
  | []=>simp only[aM]at d;omega
  |p::T=>
   simp only[ar]at d;have ew:IntKind.wrap .i64 (((R.length+G.length:Nat):Int)+1)=((R.length+G.length+1:Nat):Int):=by rw[eJ (by omega)];omega
   simp only;rw[ew];refine Join.intro (fun n' h'=>∃R' G',n'=(R'.length:Int)∧R'.length+G'.length=R.length+G.length+1∧R'++oa T=oa ys∧OwnS ey 2 al (fun b=>h.size≤b) h' E (R'++(G'++T))∧Upd No h h') (fun Rj u=>?_) ?_
   ·obtain⟨a,J,hv⟩:=Bx f (i:=R.length+G.length) (x:=p) (by rw[aZ (by omega),ff,aZ (aj _),gA];rfl)
    refine⟨⟨by omega,by omega⟩,a,J,p.1,hv 0 _ rfl,p.2,hv 1 _ rfl,?_⟩
    refine NV (p:=p) fun h4 P k4=>?_
    have j:=f.upd k4 fun _ _ h=>h
    have n:=C.tr k4;refine Join.intro (fun t h'=>h'=h4∧(t=true↔∃q v,T=q::v∧q.1=p.1)) (fun Rk A=>?_) ?_
    ·refine ax (fun hlt2=>?_) fun hge2=>A _ _ ⟨rfl,⟨fun h=>(by cases h),fun⟨q,v,e,_⟩=>(by subst e;simp only[ar]at d;omega)⟩⟩
     rcases T with _|⟨q,T⟩
     ·simp only[aM]at d;omega
     ·obtain⟨a',Q,X⟩:=Bx j (i:=R.length+G.length+1) (x:=q) (by rw[aZ (by omega),show R.length+G.length+1-R.length=G.length+1 by omega,aZ (by omega),ff];rfl)
      refine⟨⟨by omega,by omega⟩,a',Q,q.1,X 0 _ rfl,p.1,vc P 0,A _ _ ⟨rfl,?_⟩⟩
      rw[ge,decide_eq_true_iff];exact⟨fun e=>⟨q,T,rfl,e⟩,fun⟨q',v,e,e'⟩=>by cases e;exact e'⟩
    ·rintro t h5 ⟨rfl,ht⟩
     ·cases t with
      |true=>
       obtain⟨q,v,rfl,eq⟩:=ht.1 rfl;refine aw.2 (u _ _ ⟨R,G++ [p],rfl,by simp;omega,?_,by simpa using j,n⟩)
       rw[←k,uB,if_pos eq]
      |false=>
       have F:oa (p::T)=p::oa T:=by
        rcases T with _|⟨q,v⟩
        ·rfl
        ·rw[uB,if_neg fun e=>by have:=ht.2 ⟨q,v,rfl,e⟩;cases this]
       refine ag.2 ⟨p.1,vc P 0,p.2,vc P 1,⟨by omega,by omega⟩,a,J,?_⟩
       have V:IntKind.wrap .i64 ((R.length:Int)+1)=((R++ [p]).length:Int):=by rw[ac,aK,eJ (by omega)];omega
       rw[V];rcases G with _|⟨g,G⟩
       ·rw[cN]at j
        refine rH j p J (by simp) fun h6 o6 Y=>u _ _ ⟨R++ [p],[],rfl,by simp,?_,by simpa using o6,n.trans Y fun b hb=>.inr hb⟩
        rw[←k,F];simp
       ·have f1:R++((g::G)++p::T)=R++g::(G++p::T):=by simp
        rw[f1]at j;refine rH j p J (by simp) fun h6 o6 Y=>u _ _ ⟨R++ [p],G++ [p],rfl,by simp;omega,?_,by simpa using o6,n.trans Y fun b hb=>.inr hb⟩
        rw[←k,F];simp
   ·rintro n' h6 ⟨R',G',rfl,O,hl6,M,Z⟩
    exact hI (R',G',T) _ _ ⟨rfl,by simp only;rw[O],hl6,by simp only;omega,M,Z⟩ (by simp)
 ·have F:T= []:=aA.1 (by omega)
  subst F;simp only[aM]at d;simp only[oa,aL]at k f;have hcap:=f.cap;refine⟨⟨by simp only;omega,by simp only;omega⟩,?_⟩
  have L:=f.sl (W:=W') fun x hx _ hw=>by have:=hW' x hw;omega
  have hA:=Sl.sub L (l:=0) (hi:=R.length) (m:=E.cap) (c:=E.cap-0) (Nat.zero_le _) (by simp) (by omega);have H:((R++G).drop 0).take (R.length-0)=BO l:=by rw[List.drop_zero,Nat.sub_zero,List.take_left];exact k.trans o
  rw[H]at hA;exact hk _ _ hA (by simp only;omega) C
theorem Vz{W W':Nat→Prop}{h:ad}{s:SliceV}{l:List Pr}(b:Sl ey 2 W h s l)(a:∀y,W' y→y<h.size)(d:l.length≤10000000){K:SliceV→ad→Prop}
 (c:∀s' h',Sl ey 2 W' h' s' (BO l)→s'.len≤s'.cap→Upd No h h'→K s' h'):HC PG qn [.slice s.a s.len s.cap] [.c .slice] K h:=IG stP (aj _) b a (by omega) c
end Go.Proofs
