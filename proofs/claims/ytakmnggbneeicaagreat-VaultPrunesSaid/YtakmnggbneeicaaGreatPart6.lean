/- A part of the proof that the named laws of this program answer true, whatever the input. -/
import Derived.Test.YtakmnggbneeicaaGreatPart5
open Go.IntKind renaming wrap→ac
open List renaming length_append→ae,length_nil→bA,length_cons→au,length_eq_zero_iff→aG,append_nil→be,nil_append→cS,take_append_drop→bJ,length_take→aQ,length_drop→aX,append_assoc→aE,mem_append→aF,mem_singleton→al,mem_cons→aq,length_singleton→bh,getElem?_eq_some_iff→bG,getElem?_eq_getElem→af,getElem_of_mem→bD,getElem?_append_left→bO,getElem?_append_right→bq,mem_filter→bE,mem_cons_of_mem→ax,mem_cons_self→ar,pairwise_cons→ay,mem_range→fj,flatMap_cons→aU,flatMap_append→co,length_map→bS
open List.Pairwise renaming nil→cf
open Nat renaming eq_zero_or_pos→gb,le_refl→ai,add_sub_cancel_left→dU,sub_self→gY,zero_le→aN
namespace Go.Proofs
open Go Go.Lift
theorem uh{M:Nat→Prop}{h:ad}{s:SliceV}{A U C V B:List (Pr)}(F:OwnS dQ 2 33 M h s (A++(U++(C++(V++B)))))(hn:s.len≤1000000000)(e:U.length=V.length){a b:Nat}(f:a=A.length)(hb:b=A.length+U.length+C.length){n:Nat}(x:n=U.length){p:Value}{K:Unit→ad→Prop}
  (N:∀h',OwnS dQ 2 33 M h' s (A++(V++(C++(U++B))))→Upd M h h'→K () h'):dd 333 [.slice s.a s.len s.cap,.int .i64 a,.int .i64 b,.int .i64 n,p] K h:=by
 subst f hb x;refine mO s A.length (A.length+U.length+C.length:Nat) U.length p ?_;dsimp only[ii,kJ,Mu,cB,jA,fQ,Gb,DF];have d:=F.len;simp only[ae]at d;refine LoopP.ghost (fun(g:(List (Pr)×List (Pr))×List (Pr)×List (Pr)) (t:Int) h'=>t=(g.1.1.length:Int)∧U=g.1.1++g.1.2∧V=g.2.1++g.2.2∧g.1.1.length=g.2.1.length∧OwnS dQ 2 33 M h' s (A++(g.2.1++(g.1.2++(C++(g.1.1++(g.2.2++B))))))∧Upd M h h') (fun g=>g.1.2.length) (([],U),[],V)
  ⟨rfl,rfl,rfl,rfl,F,Upd.refl _ _⟩ ?_
 rintro I ⟨⟨U1,U2⟩,V1,V2⟩ t h' ⟨L,J,D,E,c,P⟩ X;(try simp only at L J D E c)
 subst L J D;simp only[ae]at e d;refine ao (fun m=>?_) fun w=>?_
 ·simp only[ae]at m
  match U2,V2 with
  | [],_=>simp only[bA]at m;omega
  |_::_,[]=>simp only[bA,au]at e;omega
  |u::U2,v::V2=>
   simp only[au]at e d;simp only[ae,au];have z:ac .i64 (((A.length+(U1.length+(U2.length+1))+C.length:Nat):Int)+(U1.length:Int))=((A.length+(U1.length+(U2.length+1))+C.length+U1.length:Nat):Int):=by rw[df (by omega)];omega
   have y:ac .i64 ((A.length:Int)+(U1.length:Int))=((A.length+U1.length:Nat):Int):=by rw[df (by omega)];omega
   rw[z,y];have f1:A++(V1++((u::U2)++(C++(U1++((v::V2)++B)))))=(A++V1)++u::(U2++(C++(U1++(v::V2++B)))):=by simp
   have R:(A++V1)++u::(U2++(C++(U1++(v::V2++B))))=((A++V1)++u::(U2++(C++U1)))++v::(V2++B):=by simp
   have T:(A++V1)++v::(U2++(C++(U1++(v::V2++B))))=((A++V1)++v::(U2++(C++U1)))++v::(V2++B):=by simp
   have W:((A++V1)++v::(U2++(C++U1)))++u::(V2++B)=A++((V1++ [v])++(U2++(C++((U1++ [u])++(V2++B))))):=by simp
   rw[f1]at c;obtain⟨a,f,q⟩:=kM c (i:=A.length+U1.length) (by rw[ae];omega);have j:=c;rw[R]at j;obtain⟨a',o,k⟩:=kM j (i:=A.length+(U1.length+(U2.length+1))+C.length+U1.length) (by simp only[ae,au];omega);rw[f]at o;cases o;refine⟨⟨by omega,by omega⟩,a,f,v.1,k 0 _ rfl,v.2,k 1 _ rfl,⟨by omega,by omega⟩,a,f,u.1,q 0 _ rfl,u.2,q 1 _ rfl,⟨by omega,by omega⟩,a,f,?_⟩
   refine ui c v f (by rw[ae];omega) fun G Q Y=>⟨⟨by omega,by omega⟩,a,f,?_⟩
   rw[T]at Q;refine ui Q u f (by first|omega|(simp;done)|(simp;omega)) fun Z O S=>?_
   rw[W]at O;rw[kX (n:=U1.length+(U2.length+1)) (by omega) (by omega)];exact X ((U1++ [u],U2),V1++ [v],V2) _ _ ⟨by simp,by simp,by simp,by simp[E],O,(P.trans Y fun b hb=>.inl hb).trans S fun b hb=>.inl hb⟩ (by simp)
 ·simp only[ae]at w
  have H:U2= []:=aG.1 (by omega);have G:V2= []:=aG.1 (by rw[H,bA]at e;omega);subst H G;simp only[be,cS]at c N;exact N h' c P
theorem Nl{M:Nat→Prop}{h:ad}{s:SliceV}{A U V B:List (Pr)}(P:OwnS dQ 2 33 M h s (A++(U++(V++B))))(J:s.len≤1000000000)(S:0<U.length)(T:0<V.length){a m b:Nat}(W:a=A.length)(hm:m=A.length+U.length)(hb:b=A.length+U.length+V.length){v:Value}{K:Unit→ad→Prop}
  (Y:∀h',OwnS dQ 2 33 M h' s (A++(V++(U++B)))→Upd M h h'→K () h'):dd 332 [.slice s.a s.len s.cap,.int .i64 a,.int .i64 m,.int .i64 b,v] K h:=by
 subst W hm hb;refine cW (iY s A.length (A.length+U.length:Nat) (A.length+U.length+V.length:Nat) v) oD Tryz.func332 Tryz.call332 ?_;unfold iY;have q:=P.len;simp only[ae]at q;have C:ac .i64 (((A.length+U.length:Nat):Int)-(A.length:Int))=(U.length:Int):=by rw[df (by omega)];omega
 have z:ac .i64 (((A.length+U.length+V.length:Nat):Int)-((A.length+U.length:Nat):Int))=(V.length:Int):=by rw[df (by omega)];omega
 rw[C,z];refine LoopP.ghost (fun(g:(List (Pr)×List (Pr))×List (Pr)×List (Pr)) (t:Int×Int) h'=>t.1=(g.1.2.length:Int)∧t.2=(g.2.1.length:Int)∧0<g.1.2.length∧0<g.2.1.length∧A.length+U.length=g.1.1.length+g.1.2.length∧g.1.1++(g.2.1++(g.1.2++g.2.2))=A++(V++(U++B))∧OwnS dQ 2 33 M h' s (g.1.1++(g.1.2++(g.2.1++g.2.2)))∧Upd M h h') (fun g=>g.1.2.length+g.2.1.length) ((A,U),V,B)
  ⟨rfl,rfl,S,T,rfl,rfl,P,Upd.refl _ _⟩ ?_
 rintro I ⟨⟨A',U'⟩,V',f⟩ ⟨Z,tj⟩ h' ⟨C,z,D,E,k,e,c,L⟩ Q;simp only at C z D E k e c;subst C z;have d:=c.len;simp only[ae]at d;have N:((A.length+U.length:Nat):Int)=((A'.length+U'.length:Nat):Int):=by omega
 rw[N];have O:ac .i64 (((A'.length+U'.length:Nat):Int)-(U'.length:Int))=(A'.length:Int):=by rw[df (by omega)];omega
 simp only;rw[O];refine CondP.intro (fun i=>?_) fun u=>?_
 ·have i:(U'.length:Int)≠(V'.length:Int):=by simpa using i
  refine ao (fun y=>?_) fun X=>?_
  ·
   have y:V'.length<U'.length:=by omega
   obtain⟨U1,U2,rfl,j⟩:∃U1 U2,U'=U1++U2∧U1.length=V'.length:=⟨U'.take V'.length,U'.drop V'.length,(bJ ..).symm,by rw[aQ];omega⟩
   simp only[ae]at y d k i O;have f1:A'++((U1++U2)++(V'++f))=A'++(U1++(U2++(V'++f))):=by simp
   have R:A'++(V'++(U2++(U1++f)))=(A'++V')++(U2++(U1++f)):=by simp
   rw[f1]at c;refine uh c J j rfl (b:=A'.length+(U1++U2).length) (by simp only[ae];omega) (n:=V'.length) j.symm fun H p w=>?_
   rw[R]at p;have o:ac .i64 (((U1++U2).length:Int)-(V'.length:Int))=(U2.length:Int):=by rw[ae,df (by omega)];omega
   rw[o];refine Q ((A'++V',U2),U1,f) _ _ ⟨rfl,by simp only;omega,by simp only;omega,by simp only;omega,by simp only[ae];omega,?_,p,L.trans w fun b hb=>.inl hb⟩ (by simp only[ae];omega)
   rw[←e];simp
  ·have G:U'.length<V'.length:=by omega
   obtain⟨V1,V2,rfl,j⟩:∃V1 V2,V'=V1++V2∧V2.length=U'.length:=⟨V'.take (V'.length-U'.length),V'.drop (V'.length-U'.length),(bJ ..).symm,by rw[aX];omega⟩
   simp only[ae]at G d i;have o:ac .i64 ((ac .i64 (((A'.length+U'.length:Nat):Int)+((V1++V2).length:Int)))-(U'.length:Int))=((A'.length+U'.length+V1.length:Nat):Int):=by
    rw[ae,df (x:=((A'.length+U'.length:Nat):Int)+((V1.length+V2.length:Nat):Int)) (by omega),df (by omega)];omega
   rw[o];have f1:A'++(U'++((V1++V2)++f))=A'++(U'++(V1++(V2++f))):=by simp
   rw[f1]at c;refine uh c J j.symm rfl rfl rfl fun H p w=>?_
   have F:ac .i64 (((V1++V2).length:Int)-(U'.length:Int))=(V1.length:Int):=by rw[ae,df (by omega)];omega
   rw[F];refine Q ((A',V2),V1,U'++f) _ _ ⟨by simp only;omega,rfl,by simp only;omega,by simp only;omega,by simp only;omega,?_,p,L.trans w fun b hb=>.inl hb⟩ (by simp only[ae];omega)
   rw[←e];simp
 ·have u:(U'.length:Int)=(V'.length:Int):=by simpa using u
  have f1:A'++(U'++(V'++f))=A'++(U'++([]++(V'++f))):=by simp
  rw[f1]at c;refine uh c J (by omega) rfl (b:=A'.length+U'.length) (by simp) rfl fun H p w=>?_
  rw[cS,e]at p;exact Y H p (L.trans w fun b hb=>.inl hb)
theorem CV{lt:Pr→Pr→Bool}(w:WO lt){M:Nat→Prop}{Iv:ad→Prop}{C:Value}(hc:Cmp lt dQ M Iv C){h:ad}{s:SliceV}{A S B:List (Pr)}(ho:OwnS dQ 2 33 M h s (A++(S++B)))(hi:Iv h)(hn:s.len≤1000000000){a b:Nat}(c:a=A.length)(hb:b=A.length+S.length){K:Unit→ad→Prop}
  (hk:∀h' R,OwnS dQ 2 33 M h' s (A++(R++B))→St lt S R→Upd M h h'→K () h'):dd 330 [.slice s.a s.len s.cap,.int .i64 a,.int .i64 b,C] K h:=by
 subst c hb;refine cW (gg s A.length (A.length+S.length:Nat) C) kU Tryz.func330 Tryz.call330 ?_;dsimp only[gg,oW,wI,Mu,cB,jA,fQ,rY,Hf,cZ,TT,kJ,Gb,DF];have d:=ho.len;simp only[ae]at d;have ea:ac .i64 ((A.length:Int)+1)=((A.length+1:Nat):Int):=by rw[df (by omega)];omega
 rw[ea];refine LoopP.ghost (fun(g:List (Pr)×List (Pr)×List (Pr)) (t:Int) h'=>t=((A.length+max 1 g.1.length:Nat):Int)∧S=g.1++g.2.2∧(g.1= []→g.2.2= [])∧St lt g.1 g.2.1∧OwnS dQ 2 33 M h' s (A++(g.2.1++(g.2.2++B)))∧Upd M h h') (fun g=>g.2.2.length) (S.take 1,S.take 1,S.drop 1)
  ⟨?_,(bJ ..).symm,fun e=>?_,⟨Eqf.rfl _,?_⟩,by rw[←aE (S.take 1),bJ];exact ho,Upd.refl _ _⟩ ?_
 ·simp only[aQ];omega
 ·have:=congrArg List.length e
  simp only[aQ,bA]at this;exact aG.1 (by simp only[aX];omega)
 ·match S with
  | []=>exact Srt.nil
  |x::S=>exact Srt.one x
 rintro I ⟨S1,U,T⟩ t h' ⟨O,N,k,m,q,hu⟩ hI;(try simp only at O N k m q)
 subst O N;simp only[ae]at d;have hR1:=m.eqf.len;refine ao (fun v=>?_) fun W=>?_
 ·simp only[ae]at v
  have hS1:S1≠[]:=fun e=>by
   have:=k e;subst e;subst this;simp only[bA]at v;omega
  have hS1l:0<S1.length:=List.length_pos_iff.2 hS1;match T with
  | []=>simp only[bA]at v;omega
  |x::T=>
   have H:A.length+max 1 S1.length=A.length+S1.length:=by omega
   rw[H];refine LoopP.ghost (fun(g:List (Pr)×List (Pr)) (t:Int) h2=>t=((A.length+g.1.length:Nat):Int)∧U=g.1++g.2∧(∀y∈g.2,lt x y=true)∧OwnS dQ 2 33 M h2 s (A++(g.1++(x::(g.2++(T++B)))))∧Upd M h h2) (fun g=>g.1.length) (U,[])
    ⟨by(try simp only);omega,by simp,fun y n=>(by cases n),by simpa using q,hu⟩ ?_
   rintro I2 ⟨L,G⟩ t2 h2 ⟨O,N,hG,f,D⟩ X;(try simp only at O N hG f)
   subst O N;simp only[ae]at hR1;simp only[au]at d;refine Join.intro (fun t Z=>Upd M h Z∧OwnS dQ 2 33 M Z s (A++(L++(x::(G++(T++B)))))∧(t=true→∃L' y,L=L'++ [y]∧lt x y=true)∧(t=false→∀y∈L,lt x y=false)) (fun Rj J=>?_) ?_
   ·refine ao (fun hgt=>?_) fun hle=>?_
    ·rcases JV L with rfl|⟨L',y,rfl⟩
     ·simp only[bA]at hgt;omega
     have p:(L'++ [y]).length=L'.length+1:=by simp
     have F:ac .i64 (((A.length+(L'++ [y]).length:Nat):Int)-1)=((A.length+L'.length:Nat):Int):=by rw[p,df (by omega)];omega
     rw[F];have f1:A++((L'++ [y])++(x::(G++(T++B))))=(A++L')++y::(x::(G++(T++B))):=by simp
     have V:A++((L'++ [y])++(x::(G++(T++B))))=(A++(L'++ [y]))++x::(G++(T++B)):=by simp
     have o3:=f;have E:=f;rw[f1]at o3;rw[V]at E;obtain⟨a,c,n⟩:=kM o3 (i:=A.length+L'.length) (by first|omega|(simp;done)|(simp;omega))
     obtain⟨a',j,hx⟩:=kM E (i:=A.length+(L'++ [y]).length) (by first|omega|(simp;done)|(simp;omega))
     rw[c]at j;cases j;refine⟨⟨by omega,by omega⟩,a,c,x.1,hx 0 _ rfl,x.2,hx 1 _ rfl,⟨by omega,by omega⟩,a,c,y.1,n 0 _ rfl,y.2,n 1 _ rfl,?_⟩
     refine hc.call x y (hc.step D hi) fun h5 e Q he=>?_
     rw[he];have Y:=f.upd Q fun _ _ h=>h
     refine J _ _ ⟨D.tr Q.wide,Y,fun h=>⟨L',y,rfl,h⟩,fun h z u=>?_⟩
     have hs:=m.srt.left;rcases aF.1 u with u|u
     ·exact w.ntr x y z h (hs.cross z u y (al.2 rfl))
     ·rw[al.1 u];exact h
    ·have hL:L= []:=aG.1 (by omega)
     exact J _ _ ⟨D,f,fun h=>(by cases h),fun _ y n=>(by rw[hL]at n;cases n)⟩
   ·rintro t3 Z ⟨P,o,ht,hf⟩
    cases t3 with
    |true=>
     obtain⟨L',y,rfl,hxy⟩:=ht rfl;have p:(L'++ [y]).length=L'.length+1:=by simp
     refine aw.2 ?_;have F:ac .i64 (((A.length+(L'++ [y]).length:Nat):Int)-1)=((A.length+L'.length:Nat):Int):=by rw[p,df (by omega)];omega
     rw[F];have f1:A++((L'++ [y])++(x::(G++(T++B))))=(A++L')++y::(x::(G++(T++B))):=by simp
     have V:(A++L')++y::(x::(G++(T++B)))=(A++(L'++ [y]))++x::(G++(T++B)):=by simp
     have f3:(A++(L'++ [y]))++y::(G++(T++B))=(A++L')++y::(y::(G++(T++B))):=by simp
     have f4:(A++L')++x::(y::(G++(T++B)))=A++(L'++(x::((y::G)++(T++B)))):=by simp
     rw[f1]at o;have E:=o;rw[V]at E;obtain⟨a,c,n⟩:=kM o (i:=A.length+L'.length) (by first|omega|(simp;done)|(simp;omega))
     obtain⟨a',j,hx⟩:=kM E (i:=A.length+(L'++ [y]).length) (by first|omega|(simp;done)|(simp;omega))
     rw[c]at j;cases j;refine⟨⟨by omega,by omega⟩,a,c,y.1,n 0 _ rfl,y.2,n 1 _ rfl,⟨by omega,by omega⟩,a,c,x.1,hx 0 _ rfl,x.2,hx 1 _ rfl,⟨by omega,by omega⟩,a,c,?_⟩
     refine ui E y c (by first|omega|(simp;done)|(simp;omega)) fun h5 o5 Q=>⟨⟨by omega,by omega⟩,a,c,?_⟩
     rw[f3]at o5;refine ui o5 x c (by first|omega|(simp;done)|(simp;omega)) fun h6 o6 k6=>?_
     rw[f4]at o6;refine X (L',y::G) _ _ ⟨rfl,by simp,fun z u=>?_,o6,(P.trans Q fun b hb=>.inl hb).trans k6 fun b hb=>.inl hb⟩ (by simp only[p];omega)
     rcases aq.1 u with rfl|u
     ·exact hxy
     ·exact hG z u
    |false=>
     refine ag.2 ?_;have F:ac .i64 (((A.length+S1.length:Nat):Int)+1)=((A.length+max 1 (S1.length+1):Nat):Int):=by rw[df (by omega)];omega
     rw[F];refine hI (S1++ [x],L++x::G,T) _ _ ⟨by simp,by simp,fun e=>(by simp at e),RQ w m (hf rfl) hG,?_,P⟩ (by simp)
     have f1:A++((L++x::G)++(T++B))=A++(L++(x::(G++(T++B)))):=by simp
     rw[f1];exact o
 ·simp only[ae]at W
  have hT:T= []:=by
   rcases gb S1.length with h0|h0
   ·exact k (aG.1 h0)
   ·exact aG.1 (by omega)
  subst hT;rw[cS]at q;rw[be]at hk;exact hk h' U q m hu
theorem Ag{lt:Pr→Pr→Bool}(w:WO lt){M:Nat→Prop}{Iv:ad→Prop}{cmp:Value}(hc:Cmp lt dQ M Iv cmp){s:SliceV}(hn:s.len≤1000000000):∀(n:Nat) {h:ad} {A U V B:List (Pr)},U.length+V.length≤n→OwnS dQ 2 33 M h s (A++(U++(V++B)))→Iv h→0<U.length→0<V.length→Srt lt U→Srt lt V→∀{a m b:Nat},a=A.length→m=A.length+U.length→b=A.length+U.length+V.length→∀{K:Unit→ad→Prop},
  (∀h' R,OwnS dQ 2 33 M h' s (A++(R++B))→St lt (U++V) R→Upd M h h'→K () h')→dd 331 [.slice s.a s.len s.cap,.int .i64 a,.int .i64 m,.int .i64 b,cmp] K h:=by
 intro n;induction n with
 |zero=>intro h A U V B hl _ _ hU;omega
 |succ n ih=>
  intro h A U V B hl ho hi hU hV sU sV a m b ha hm hb K hk;refine cW (ix s a m b cmp) nC Tryz.func331 Tryz.call331 ?_;dsimp only[ix,oW,wI,Mu,cB,jA,fQ,rY,Hf,cZ,Kr,TT,kJ,Gb,DF];have z:=ho.len;simp only[ae]at z;have e1:ac .i64 ((m:Int)-(a:Int))=(U.length:Int):=by rw[df (by omega)];omega
  have e2:ac .i64 ((b:Int)-(m:Int))=(V.length:Int):=by rw[df (by omega)];omega
  rw[e1,e2];refine CondP.intro (fun G=>?_) fun hmore=>?_
  ·have G:U.length=1:=by have:=eq_of_beq G;omega
   match U,G with
   | [u],_=>
   simp only[bh]at z hm hb;refine LoopP.ghost (fun(g:Nat×Nat) (t:Int×Int) h'=>t.1=(g.1:Int)∧t.2=(g.2:Int)∧m≤g.1∧g.1≤g.2∧g.2≤b∧(∀q x,V[q]? =some x→m+q<g.1→lt x u=true)∧(∀q x,V[q]? =some x→g.2≤m+q→lt x u=false)∧OwnS dQ 2 33 M h' s (A++([u]++(V++B)))∧Upd M h h') (fun g=>g.2-g.1) (m,b)
    ⟨rfl,rfl,ai _,by(try simp only);omega,ai _,fun q x D h=>(by(try simp only at h);omega),fun q x D h=>(by have:=(bG.1 D).1;(try simp only at h);omega),ho,Upd.refl _ _⟩ ?_
   rintro I ⟨i,j⟩ ⟨ti,tj⟩ h' ⟨e1,e2,hmi,J,hjb,H,F,L,hu⟩ hI;(try simp only at e1 e2 hmi J hjb H F)
   subst e1 e2;refine ao (fun N=>?_) fun hge=>?_
   ·have N:i<j:=by have:(i:Int)<(j:Int):=N;omega
    refine⟨by decide,?_⟩;simp only[Bd];rw[Et (by omega)];have hk1:(i+j)/2-m<V.length:=by omega
    have hk0:(i+j)/2=A.length+1+((i+j)/2-m):=by omega
    obtain⟨S,f,hx⟩:=xR L (i:=(i+j)/2) (x:=V[(i+j)/2-m]) (SWz (U:= [u]) (k:=(i+j)/2-m) (by simp only[bh];omega) (af hk1));obtain⟨a2,C,hy⟩:=kM (P:=A) (x:=u) (Q:=V++B) L ha;rw[f]at C;cases C;have hVk:V[(i+j)/2-m]? =some V[(i+j)/2-m]:=af hk1;generalize V[(i+j)/2-m]=x at hx hVk;refine⟨⟨by omega,by omega⟩,S,f,x.1,hx 0 _ rfl,x.2,hx 1 _ rfl,⟨by omega,by omega⟩,S,f,u.1,hy 0 _ rfl,u.2,hy 1 _ rfl,?_⟩
    refine hc.call x u (hc.step hu hi) fun T e k5 he=>?_
    rw[he];have W:=L.upd k5 fun _ _ h=>h
    have X:=hu.tr k5.wide;cases hxu:lt x u with
    |true=>
     refine aw.2 ?_;have ew:ac .i64 ((((i+j)/2:Nat):Int)+1)=(((i+j)/2+1:Nat):Int):=by rw[df (by omega)];omega
     rw[ew];refine hI ((i+j)/2+1,j) _ _ ⟨rfl,rfl,by(try simp only);omega,by(try simp only);omega,hjb,fun q y D hqi=>?_,F,W,X⟩ (by(try simp only);omega)
     have hle:=qn w sV (i:=q) (j:=(i+j)/2-m) (by(try simp only at hqi);omega) D hVk;cases hyu:lt y u with
     |true=>rfl
     |false=>rw[w.ntr _ _ _ hle hyu]at hxu;cases hxu
    |false=>
     refine ag.2 ?_;refine hI (i,(i+j)/2) _ _ ⟨rfl,rfl,hmi,by(try simp only);omega,by(try simp only);omega,H,fun q y D hqi=>?_,W,X⟩ (by(try simp only);omega)
     have hle:=qn w sV (i:=(i+j)/2-m) (j:=q) (by(try simp only at hqi);omega) hVk D;exact w.ntr _ _ _ hle hxu
   ·have J:i=j:=by have:¬(i:Int)<(j:Int):=hge;omega
    subst J;obtain⟨V1,V2,rfl,hV1⟩:∃V1 V2,V=V1++V2∧V1.length=i-m:=⟨V.take (i-m),V.drop (i-m),(bJ ..).symm,by rw[aQ];omega⟩
    simp only[ae]at z hb;have lo1:∀x∈V1,lt x u=true:=fun x hx=>by
     obtain⟨q,D,e⟩:=bD hx;exact H q x (by rw[bO D,af D,e]) (by omega)
    have hi1:∀x∈V2,lt x u=false:=fun x hx=>by
     obtain⟨q,D,e⟩:=bD hx;exact F (V1.length+q) x (by rw[bq (by omega),dU,af D,e]) (by omega)
    have hst:=Ji w sV lo1 hi1;have f0:A++([u]++((V1++V2)++B))=A++([]++(u::(V1++(V2++B)))):=by simp
    rw[f0]at L;have ew:ac .i64 ((i:Int)-1)=((A.length+V1.length:Nat):Int):=by rw[df (by omega)];omega
    rw[ew];refine LoopP.ghost (fun(g:List (Pr)×List (Pr)) (t:Int) E=>t=((A.length+g.1.length:Nat):Int)∧V1=g.1++g.2∧OwnS dQ 2 33 M E s (A++(g.1++(u::(g.2++(V2++B)))))∧Upd M h E) (fun g=>g.2.length) ([],V1)
     ⟨by simp[ha],rfl,L,hu⟩ ?_
    rintro I2 ⟨G1,G2⟩ t2 E ⟨e1,e2,o,O⟩ hI2;(try simp only at e1 e2 o)
    subst e1 e2;simp only[ae]at z hb ew⊢;refine ao (fun N=>?_) fun hge=>?_
    ·match G2 with
     | []=>simp only[bA]at N;omega
     |g::G2=>
      simp only[au]at z;have ew1:ac .i64 (((A.length+G1.length:Nat):Int)+1)=((A.length+G1.length+1:Nat):Int):=by rw[df (by omega)];omega
      rw[ew1];have f1:A++(G1++(u::((g::G2)++(V2++B))))=(A++G1)++u::(g::(G2++(V2++B))):=by simp
      have f2:(A++G1)++u::(g::(G2++(V2++B)))=(A++(G1++ [u]))++g::(G2++(V2++B)):=by simp
      have f3:(A++G1)++g::(g::(G2++(V2++B)))=(A++(G1++ [g]))++g::(G2++(V2++B)):=by simp
      have f4:(A++(G1++ [g]))++u::(G2++(V2++B))=A++((G1++ [g])++(u::(G2++(V2++B)))):=by simp
      rw[f1]at o;have o3:=o;rw[f2]at o3;obtain⟨S,f,hy⟩:=kM o3 (i:=A.length+G1.length+1) (by first|omega|(simp;done)|(simp;omega))
      obtain⟨a2,C,hx⟩:=kM o (i:=A.length+G1.length) (by first|omega|(simp;done)|(simp;omega))
      rw[f]at C;cases C;refine⟨⟨by omega,by omega⟩,S,f,g.1,hy 0 _ rfl,g.2,hy 1 _ rfl,⟨by omega,by omega⟩,S,f,u.1,hx 0 _ rfl,u.2,hx 1 _ rfl,⟨by omega,by omega⟩,S,f,?_⟩
      refine ui o g f (by first|omega|(simp;done)|(simp;omega)) fun T o5 k5=>⟨⟨by omega,by omega⟩,S,f,?_⟩
      rw[f3]at o5;refine ui o5 u f (by first|omega|(simp;done)|(simp;omega)) fun h6 o6 k6=>?_
      rw[f4]at o6;exact hI2 (G1++ [g],G2) _ _ ⟨by simp;omega,by simp,o6,(O.trans k5 fun b hb=>.inl hb).trans k6 fun b hb=>.inl hb⟩ (by simp)
    ·have hG:G2= []:=aG.1 (by omega)
     subst hG;simp only[be,cS]at o hst hk;refine hk E (G1++u::V2) ?_ hst O;have f1:A++((G1++u::V2)++B)=A++(G1++(u::(V2++B))):=by simp
     rw[f1];exact o
  refine CondP.intro (fun G=>?_) fun hmore2=>?_
  ·have G:V.length=1:=by have:=eq_of_beq G;omega
   match V,G with
   | [v],_=>
   simp only[bh]at z hb;refine LoopP.ghost (fun(g:Nat×Nat) (t:Int×Int) h'=>t.1=(g.1:Int)∧t.2=(g.2:Int)∧a≤g.1∧g.1≤g.2∧g.2≤m∧(∀q x,U[q]? =some x→a+q<g.1→lt v x=false)∧(∀q x,U[q]? =some x→g.2≤a+q→lt v x=true)∧OwnS dQ 2 33 M h' s (A++(U++([v]++B)))∧Upd M h h') (fun g=>g.2-g.1) (a,m)
    ⟨rfl,rfl,ai _,by(try simp only);omega,ai _,fun q x D h=>(by(try simp only at h);omega),fun q x D h=>(by have:=(bG.1 D).1;(try simp only at h);omega),ho,Upd.refl _ _⟩ ?_
   rintro I ⟨i,j⟩ ⟨ti,tj⟩ h' ⟨e1,e2,hmi,J,hjb,H,F,L,hu⟩ hI;(try simp only at e1 e2 hmi J hjb H F)
   subst e1 e2;refine ao (fun N=>?_) fun hge=>?_
   ·have N:i<j:=by have:(i:Int)<(j:Int):=N;omega
    refine⟨by decide,?_⟩;simp only[Bd];rw[Et (by omega)];have hk1:(i+j)/2-a<U.length:=by omega
    obtain⟨S,f,hx⟩:=xR L (i:=(i+j)/2) (x:=U[(i+j)/2-a]) (PC (k:=(i+j)/2-a) (by omega) (af hk1));have f1:A++(U++([v]++B))=(A++U)++v::B:=by simp
    have o3:=L;rw[f1]at o3;obtain⟨a2,C,hy⟩:=kM o3 (i:=m) (by first|omega|(simp;done)|(simp;omega))
    rw[f]at C;cases C;have hVk:U[(i+j)/2-a]? =some U[(i+j)/2-a]:=af hk1;generalize U[(i+j)/2-a]=x at hx hVk;refine⟨⟨by omega,by omega⟩,S,f,v.1,hy 0 _ rfl,v.2,hy 1 _ rfl,⟨by omega,by omega⟩,S,f,x.1,hx 0 _ rfl,x.2,hx 1 _ rfl,?_⟩
    refine hc.call v x (hc.step hu hi) fun T e k5 he=>?_
    rw[he];have W:=L.upd k5 fun _ _ h=>h
    have X:=hu.tr k5.wide;cases hxu:lt v x with
    |false=>
     refine aw.2 ?_;have ew:ac .i64 ((((i+j)/2:Nat):Int)+1)=(((i+j)/2+1:Nat):Int):=by rw[df (by omega)];omega
     rw[ew];refine hI ((i+j)/2+1,j) _ _ ⟨rfl,rfl,by(try simp only);omega,by(try simp only);omega,hjb,fun q y D hqi=>?_,F,W,X⟩ (by(try simp only);omega)
     exact w.ntr _ _ _ hxu (qn w sU (i:=q) (j:=(i+j)/2-a) (by(try simp only at hqi);omega) D hVk)
    |true=>
     refine ag.2 ?_;refine hI (i,(i+j)/2) _ _ ⟨rfl,rfl,hmi,by(try simp only);omega,by(try simp only);omega,H,fun q y D hqi=>?_,W,X⟩ (by(try simp only);omega)
     have hle:=qn w sU (i:=(i+j)/2-a) (j:=q) (by(try simp only at hqi);omega) hVk D;cases hvy:lt v y with
     |true=>rfl
     |false=>rw[w.ntr _ _ _ hvy hle]at hxu;cases hxu
   ·have J:i=j:=by have:¬(i:Int)<(j:Int):=hge;omega
    subst J;obtain⟨U1,U2,rfl,hU1⟩:∃U1 U2,U=U1++U2∧U1.length=i-a:=⟨U.take (i-a),U.drop (i-a),(bJ ..).symm,by rw[aQ];omega⟩
    simp only[ae]at z hb hm;have lo1:∀x∈U1,lt v x=false:=fun x hx=>by
     obtain⟨q,D,e⟩:=bD hx;exact H q x (by rw[bO D,af D,e]) (by omega)
    have hi1:∀x∈U2,lt v x=true:=fun x hx=>by
     obtain⟨q,D,e⟩:=bD hx;exact F (U1.length+q) x (by rw[bq (by omega),dU,af D,e]) (by omega)
    have hst:=K3 w sU lo1 hi1;have f0:A++((U1++U2)++([v]++B))=A++(U1++(U2++(v::([]++B)))):=by simp
    rw[f0]at L;refine LoopP.ghost (fun(g:List (Pr)×List (Pr)) (t:Int) E=>t=((A.length+U1.length+g.1.length:Nat):Int)∧U2=g.1++g.2∧OwnS dQ 2 33 M E s (A++(U1++(g.1++(v::(g.2++B)))))∧Upd M h E) (fun g=>g.1.length) (U2,[])
     ⟨by(try simp only);omega,by simp,L,hu⟩ ?_
    rintro I2 ⟨G1,G2⟩ t2 E ⟨e1,e2,o,O⟩ hI2;(try simp only at e1 e2 o)
    subst e1 e2;simp only[ae]at z hb hm⊢;refine ao (fun hgt=>?_) fun hle=>?_
    ·rcases JV G1 with rfl|⟨G1',g,rfl⟩
     ·simp only[bA]at hgt;omega
     simp only[ae,bh]at z hb hm hgt⊢;have ew1:ac .i64 (((A.length+U1.length+(G1'.length+1):Nat):Int)-1)=((A.length+U1.length+G1'.length:Nat):Int):=by rw[df (by omega)];omega
     rw[ew1];have f1:A++(U1++((G1'++ [g])++(v::(G2++B))))=(A++(U1++(G1'++ [g])))++v::(G2++B):=by simp
     have f2:(A++(U1++(G1'++ [g])))++v::(G2++B)=(A++(U1++G1'))++g::(v::(G2++B)):=by simp
     have f3:(A++(U1++(G1'++ [g])))++g::(G2++B)=(A++(U1++G1'))++g::(g::(G2++B)):=by simp
     have f4:(A++(U1++G1'))++v::(g::(G2++B))=A++(U1++(G1'++(v::((g::G2)++B)))):=by simp
     rw[f1]at o;have o3:=o;rw[f2]at o3;obtain⟨S,f,hy⟩:=kM o3 (i:=A.length+U1.length+G1'.length) (by first|omega|(simp;done)|(simp;omega))
     obtain⟨a2,C,hx⟩:=kM o (i:=A.length+U1.length+(G1'.length+1)) (by first|omega|(simp;done)|(simp;omega))
     rw[f]at C;cases C;refine⟨⟨by omega,by omega⟩,S,f,g.1,hy 0 _ rfl,g.2,hy 1 _ rfl,⟨by omega,by omega⟩,S,f,v.1,hx 0 _ rfl,v.2,hx 1 _ rfl,⟨by omega,by omega⟩,S,f,?_⟩
     refine ui o g f (by first|omega|(simp;done)|(simp;omega)) fun T o5 k5=>⟨⟨by omega,by omega⟩,S,f,?_⟩
     rw[f3]at o5;refine ui o5 v f (by first|omega|(simp;done)|(simp;omega)) fun h6 o6 k6=>?_
     rw[f4]at o6;exact hI2 (G1',g::G2) _ _ ⟨rfl,by simp,o6,(O.trans k5 fun b hb=>.inl hb).trans k6 fun b hb=>.inl hb⟩ (by simp)
    ·have hG:G1= []:=aG.1 (by omega)
     subst hG;simp only[cS]at o hst hk;refine hk E (U1++v::G2) ?_ hst O;have f1:A++((U1++v::G2)++B)=A++(U1++(v::(G2++B))):=by simp
     rw[f1];exact o
  have hU2:2≤U.length:=by
   have:(U.length:Int)≠1:=by simpa using hmore
   omega
  have hV2:2≤V.length:=by
   have:(V.length:Int)≠1:=by simpa using hmore2
   omega
  refine⟨by decide,?_⟩;simp only[Bd];rw[Et (i:=a) (j:=b) (by omega)];obtain⟨d,hmid⟩:∃d,(a+b)/2=d:=⟨_,rfl⟩;rw[hmid];have em:ac .i64 ((d:Int)+(m:Int))=((d+m:Nat):Int):=by rw[df (by omega)];omega
  rw[em];have ep:ac .i64 (((d+m:Nat):Int)-1)=((d+m-1:Nat):Int):=by rw[df (by omega)];omega
  rw[ep];refine Join.intro (fun t h'=>h'=h∧∃s0 r0:Nat,t=((s0:Int),(r0:Int))∧a≤s0∧s0≤r0∧r0≤m∧r0≤d∧d+m≤b+s0∧(r0=d∨r0=m)∧(s0=a∨s0+b=d+m)) (fun Rj Z=>?_) ?_
  ·refine ao (fun hgt=>?_) fun hle=>?_
   ·have es:ac .i64 (((d+m:Nat):Int)-(b:Int))=((d+m-b:Nat):Int):=by rw[df (by omega)];omega
    rw[es];exact Z _ _ ⟨rfl,_,_,rfl,by omega,by omega,by omega,by omega,by omega,by omega,by omega⟩
   ·exact Z _ _ ⟨rfl,_,_,rfl,by omega,by omega,by omega,by omega,by omega,by omega,by omega⟩
  rintro t h' ⟨rfl,s0,r0,rfl,hs0,hsr,hrm,hrd,hsb,hr0,hs00⟩;refine LoopP.ghost (fun(g:Nat×Nat) (t:Int×Int) E=>t.1=(g.1:Int)∧t.2=(g.2:Int)∧s0≤g.1∧g.1≤g.2∧g.2≤r0∧(∀c x y,s0≤c→c<g.1→U[c-a]? =some x→V[d-1-c]? =some y→lt y x=false)∧(∀c x y,g.2≤c→c<r0→U[c-a]? =some x→V[d-1-c]? =some y→lt y x=true)∧OwnS dQ 2 33 M E s (A++(U++(V++B)))∧Upd M h' E) (fun g=>g.2-g.1) (s0,r0)
   ⟨rfl,rfl,ai _,hsr,ai _,fun c x y h1 E=>(by(try simp only at E);omega),fun c x y h1 E=>(by(try simp only at h1);omega),ho,Upd.refl _ _⟩ ?_
  rintro I ⟨i,j⟩ ⟨ti,tj⟩ E ⟨e1,e2,hsi,J,hjr,H,F,o,O⟩ hI;(try simp only at e1 e2 hsi J hjr H F)
  subst e1 e2;refine ao (fun N=>?_) fun hge=>?_
  ·have N:i<j:=by have:(i:Int)<(j:Int):=N;omega
   refine⟨by decide,?_⟩;rw[Et (i:=i) (j:=j) (by omega)];obtain⟨c,hcc⟩:∃c,(i+j)/2=c:=⟨_,rfl⟩;rw[hcc];have hci:i≤c:=by omega
   have hcj:c<j:=by omega
   have eq:ac .i64 (((d+m-1:Nat):Int)-(c:Int))=((d+m-1-c:Nat):Int):=by rw[df (by omega)];omega
   rw[eq];have hk1:c-a<U.length:=by omega
   have hk2:d-1-c<V.length:=by omega
   obtain⟨S,f,hx⟩:=xR o (i:=c) (x:=U[c-a]) (PC (k:=c-a) (by omega) (af hk1));obtain⟨a2,C,hy⟩:=xR o (i:=d+m-1-c) (x:=V[d-1-c]) (SWz (k:=d-1-c) (by omega) (af hk2));rw[f]at C;cases C;have hUc:U[c-a]? =some U[c-a]:=af hk1;have hVc:V[d-1-c]? =some V[d-1-c]:=af hk2;generalize U[c-a]=x at hx hUc
   generalize V[d-1-c]=y at hy hVc;refine⟨⟨by omega,by omega⟩,S,f,y.1,hy 0 _ rfl,y.2,hy 1 _ rfl,⟨by omega,by omega⟩,S,f,x.1,hx 0 _ rfl,x.2,hx 1 _ rfl,?_⟩
   refine hc.call y x (hc.step O hi) fun T e k5 he=>?_
   rw[he];have W:=o.upd k5 fun _ _ h=>h
   have X:=O.tr k5.wide;cases hyx:lt y x with
   |false=>
    refine aw.2 ?_;have ew:ac .i64 ((c:Int)+1)=((c+1:Nat):Int):=by rw[df (by omega)];omega
    rw[ew];refine hI (c+1,j) _ _ ⟨rfl,rfl,by(try simp only);omega,by(try simp only);omega,hjr,fun c' x' y' h1 E hx' hy'=>?_,F,W,X⟩ (by(try simp only);omega)
    (try simp only at E)
    have q1:=qn w sU (i:=c'-a) (j:=c-a) (by omega) hx' hUc;have q2:=qn w sV (i:=d-1-c) (j:=d-1-c') (by omega) hVc hy';exact w.ntr _ _ _ (w.ntr _ _ _ q2 hyx) q1
   |true=>
    refine ag.2 ?_;refine hI (i,c) _ _ ⟨rfl,rfl,hsi,hci,by(try simp only);omega,H,fun c' x' y' h1 E hx' hy'=>?_,W,X⟩ (by(try simp only);omega)
    (try simp only at h1)
    have q1:=qn w sU (i:=c-a) (j:=c'-a) (by omega) hUc hx';have q2:=qn w sV (i:=d-1-c') (j:=d-1-c) (by omega) hy' hVc;cases hyx':lt y' x' with
    |true=>rfl
    |false=>rw[w.ntr _ _ _ (w.ntr _ _ _ q2 hyx') q1]at hyx;cases hyx
  have J:i=j:=by have:¬(i:Int)<(j:Int):=hge;omega
  subst J;have en:ac .i64 (((d+m:Nat):Int)-(i:Int))=((d+m-i:Nat):Int):=by rw[df (by omega)];omega
  (try simp only)
  rw[en];obtain⟨U1,U2,eU,hU1⟩:∃U1 U2,U=U1++U2∧U1.length=i-a:=⟨U.take (i-a),U.drop (i-a),(bJ ..).symm,by rw[aQ];omega⟩
  obtain⟨V1,V2,eV,hV1⟩:∃V1 V2,V=V1++V2∧V1.length=d-i:=⟨V.take (d-i),V.drop (d-i),(bJ ..).symm,by rw[aQ];omega⟩
  have c1:∀v∈V1,∀u∈U2,lt v u=true:=fun v hv u hu=>by
   obtain⟨q,D,e⟩:=bD hv;obtain⟨p,hp,e'⟩:=bD hu;have hlU:U.length=U1.length+U2.length:=by rw[eU,ae]
   have n1:0<U2.length:=by omega
   have n2:d-1-i<V1.length:=by omega
   have gx:U[i-a]? =some (U2[0]'n1):=by rw[eU,bq (by omega),←hU1,gY,af (by omega)]
   have gy:V[d-1-i]? =some (V1[d-1-i]'n2):=by rw[eV,bO (by omega),af (by omega)]
   have hQ:=F i _ _ (ai _) (by omega) gx gy;have q1:=qn w sU (i:=i-a) (j:=i-a+p) (by omega) gx (by rw[eU,bq (by omega),←hU1,dU,af hp,e']);have q2:=qn w sV (i:=q) (j:=d-1-i) (by omega) (by rw[eV,bO D,af D,e]) gy;cases hvu:lt v u with
   |true=>rfl
   |false=>rw[w.ntr _ _ _ (w.ntr _ _ _ q2 hvu) q1]at hQ;cases hQ
  have c2:∀u∈U1,∀v∈V2,lt v u=false:=fun u hu v hv=>by
   obtain⟨p,hp,e'⟩:=bD hu;obtain⟨q,D,e⟩:=bD hv;have hlV:V.length=V1.length+V2.length:=by rw[eV,ae]
   have n1:i-1-a<U1.length:=by omega
   have n2:0<V2.length:=by omega
   have gx:U[i-1-a]? =some (U1[i-1-a]'n1):=by rw[eU,bO (by omega),af (by omega)]
   have gy:V[d-1-(i-1)]? =some (V2[0]'n2):=by rw[eV,bq (by omega),show d-1-(i-1)-V1.length=0 by omega,af (by omega)]
   have hQ:=H (i-1) _ _ (by omega) (by omega) gx gy;have q1:=qn w sU (i:=p) (j:=i-1-a) (by omega) (by rw[eU,bO hp,af hp,e']) gx;have q2:=qn w sV (i:=d-i) (j:=d-i+q) (by omega) (by rw[eV,bq (by omega),hV1,gY,af (by omega)]) (by rw[eV,bq (by omega),hV1,dU,af D,e])
   have gy2:V[d-i]? =some (V2[0]'n2):=by rw[eV,bq (by omega),hV1,gY,af (by omega)]
   exact w.ntr _ _ _ (w.ntr _ _ _ q2 hQ) q1
  subst eU eV;simp only[ae]at z hU hV hl hm hb hU2 hV2;have sA1:=sU.left;have sA2:=sU.right;have sB1:=sV.left;have sB2:=sV.right;refine Join.intro (fun _ h3=>OwnS dQ 2 33 M h3 s (A++(U1++(V1++(U2++(V2++B)))))∧Upd M h' h3) (fun Rj Z=>?_) ?_
  ·have f1:A++((U1++U2)++((V1++V2)++B))=(A++U1)++(U2++(V1++(V2++B))):=by simp
   have f2:(A++U1)++(V1++(U2++(V2++B)))=A++(U1++(V1++(U2++(V2++B)))):=by simp
   refine Join.intro (fun t h3=>h3=E∧(t=true↔0<U2.length∧0<V1.length)) (fun Rk Y=>?_) ?_
   ·refine ao (fun h=>Y _ _ ⟨rfl,?_⟩) fun h=>Y _ _ ⟨rfl,⟨fun h=>(by cases h),fun h=>(by omega)⟩⟩
    rw[decide_eq_true_iff];constructor
    ·intro h;constructor<;>omega
    ·rintro⟨h1,E⟩;omega
   ·rintro t h3 ⟨rfl,ht⟩
    cases t with
    |true=>
     obtain⟨p1,p2⟩:=ht.1 rfl;rw[f1]at o;refine aw.2 (Nl o hn p1 p2 (by rw[ae];omega) (by rw[ae];omega) (by rw[ae];omega) fun h4 o4 k4=>Z _ _ ⟨?_,O.trans k4 fun b hb=>.inl hb⟩)
     rw[f2]at o4;exact o4
    |false=>
     have hz:U2= []∨V1= []:=by
      rcases gb U2.length with h|h
      ·exact .inl (aG.1 h)
      ·rcases gb V1.length with h3|h3
       ·exact .inr (aG.1 h3)
       ·have:=ht.2 ⟨h,h3⟩;cases this
     refine ag.2 (Z _ _ ⟨?_,O⟩);rw[f1]at o;rw[←f2];rcases hz with rfl|rfl
     ·exact o
     ·exact o
  rintro _ h3 ⟨o3,k3⟩;refine Join.intro (fun _ h4=>∃R1,OwnS dQ 2 33 M h4 s (A++(R1++(U2++(V2++B))))∧St lt (U1++V1) R1∧Upd M h' h4) (fun Rj Z=>?_) ?_
  ·refine Join.intro (fun t h4=>h4=h3∧(t=true↔0<U1.length∧0<V1.length)) (fun Rk Y=>?_) ?_
   ·refine ao (fun h=>Y _ _ ⟨rfl,?_⟩) fun h=>Y _ _ ⟨rfl,⟨fun h=>(by cases h),fun h=>(by omega)⟩⟩
    rw[decide_eq_true_iff];constructor
    ·intro h;constructor<;>omega
    ·rintro⟨h1,E⟩;omega
   ·rintro t h4 ⟨rfl,ht⟩
    cases t with
    |true=>
     obtain⟨p1,p2⟩:=ht.1 rfl;refine aw.2 (ih (by omega) o3 (hc.step k3 hi) p1 p2 sA1 sB1 ha (by omega) (by omega) fun T R1 o5 s5 k5=>Z _ _ ⟨R1,o5,s5,k3.trans k5 fun b hb=>.inl hb⟩)
    |false=>
     refine ag.2 (Z _ _ ⟨U1++V1,by simpa using o3,⟨Eqf.rfl _,?_⟩,k3⟩)
     rcases gb U1.length with h|h
     ·rw[aG.1 h];exact sB1
     ·rcases gb V1.length with T|T
      ·rw[aG.1 T,be];exact sA1
      ·have:=ht.2 ⟨h,T⟩;cases this
  rintro _ h4 ⟨R1,o4,s1,k4⟩;have hR1:=s1.eqf.len;rw[ae]at hR1;have fin:∀{T:ad} {R2:List (Pr)},OwnS dQ 2 33 M T s (A++(R1++(R2++B)))→St lt (U2++V2) R2→Upd M h' T→K () T:=fun{T R2} o5 s2 k5=>by
   refine hk T (R1++R2) ?_ (P6 w sU sV c1 c2 s1 s2) k5;rw[aE];exact o5
  refine Join.intro (fun t T=>T=h4∧(t=true↔0<U2.length∧0<V2.length)) (fun Rk Y=>?_) ?_
  ·refine ao (fun h=>Y _ _ ⟨rfl,?_⟩) fun h=>Y _ _ ⟨rfl,⟨fun h=>(by cases h),fun h=>(by omega)⟩⟩
   rw[decide_eq_true_iff];constructor
   ·intro h;constructor<;>omega
   ·rintro⟨h1,E⟩;omega
  ·rintro t T ⟨rfl,ht⟩
   have f1:A++(R1++(U2++(V2++B)))=(A++R1)++(U2++(V2++B)):=by simp
   cases t with
   |true=>
    obtain⟨p1,p2⟩:=ht.1 rfl;rw[f1]at o4;refine aw.2 (ih (by omega) o4 (hc.step k4 hi) p1 p2 sA2 sB2 (by rw[ae];omega) (by rw[ae];omega) (by rw[ae];omega) fun h6 R2 o6 s6 k6=>fin (R2:=R2) ?_ s6 (k4.trans k6 fun b hb=>.inl hb))
    rw[aE]at o6;exact o6
   |false=>
    refine ag.2 (fin (R2:=U2++V2) (by simpa using o4) ⟨Eqf.rfl _,?_⟩ k4);rcases gb U2.length with h|h
    ·rw[aG.1 h];exact sB2
    ·rcases gb V2.length with h6|h6
     ·rw[aG.1 h6,be];exact sA2
     ·have:=ht.2 ⟨h,h6⟩;cases this
theorem M5{lt:Pr→Pr→Bool}(w:WO lt){M:Nat→Prop}{Iv:ad→Prop}{f:Value}(hc:Cmp lt dQ M Iv f){h:ad}{s:SliceV}{xs:List (Pr)}(ho:OwnS dQ 2 33 M h s xs)(hi:Iv h)(hn:xs.length≤100000000){K:Unit→ad→Prop}
  (hk:∀h' R,OwnS dQ 2 33 M h' s R→St lt xs R→Upd M h h'→K () h'):dd 320 [.slice s.a s.len s.cap,f] K h:=by
 refine cW (eO s f) .nil Tryz.func320 Tryz.call320 ?_;unfold eO;refine cW (iX s (s.len:Int) f) oC Tryz.func328 Tryz.call328 ?_;unfold iX;have j:=ho.len;have i:s.len≤1000000000:=by omega
 refine LoopP.ghost (fun(g:List (Pr)×List (Pr)×List (Pr)) (t:Int×Int) h'=>t.1=(g.2.1.length:Int)∧t.2=((g.2.1.length+20:Nat):Int)∧xs=g.1++g.2.2∧Eqf lt g.1 g.2.1∧Full lt 20 g.2.1∧OwnS dQ 2 33 M h' s (g.2.1++g.2.2)∧Upd M h h') (fun g=>g.2.2.length) ([],[],xs)
  ⟨rfl,rfl,rfl,Eqf.rfl _,Full.nil,ho,Upd.refl _ _⟩ ?_
 rintro I ⟨X,D,T⟩ ⟨ta,tb⟩ h1 ⟨m,L,E,d,k,P,k1⟩ hI;simp only at m L E d k P;subst m L E;have hXD:=d.len;simp only[ae]at j hn;refine ao (fun hle=>?_) fun N=>?_
 ·obtain⟨S,U,rfl,hS⟩:∃S U,T=S++U∧S.length=20:=⟨T.take 20,T.drop 20,(bJ ..).symm,by rw[aQ];omega⟩
  refine CV w hc P (hc.step k1 hi) i rfl (b:=D.length+20) (by omega) fun h2 R z q J=>?_
  have y:=q.eqf.len;simp only[ae]at j hn;have A:ac .i64 (((D.length+20:Nat):Int)+20)=(((D++R).length+20:Nat):Int):=by rw[ae,df (by omega)];omega
  rw[A];refine hI (X++S,D++R,U) _ _ ⟨by simp only[ae];omega,rfl,by simp,d.app q.eqf,k.app (by omega) q.srt,by rw[aE];exact z,k1.trans J fun b hb=>.inl hb⟩ (by simp only[ae];omega)
 have f1:D++T=D++(T++ []):=by simp
 rw[f1]at P;refine CV w hc P (hc.step k1 hi) i rfl (b:=s.len) (by omega) fun h2 R z q J=>?_
 have y:=q.eqf.len;rw[be]at z;have p:Eqf lt (X++T) (D++R):=d.app q.eqf;have B:Runs lt 20 (D++R):=k R (.last R (by omega) q.srt);have J:Upd M h h2:=k1.trans J fun b hb=>.inl hb
 generalize D++R=ys at z p B;generalize X++T=zs at p hk;have c:s.len=ys.length:=z.len;clear hI d k P f1 N y;refine LoopP.ghost (fun(g:Nat×List (Pr)) (t:Int) h'=>t=(g.1:Int)∧0<g.1∧g.1≤200000000∧Runs lt g.1 g.2∧Eqf lt zs g.2∧OwnS dQ 2 33 M h' s g.2∧Upd M h h') (fun g=>s.len-g.1) (20,ys)
  ⟨rfl,by simp,by simp,B,p,z,J⟩ ?_
 rintro I2 ⟨a,ys⟩ t h3 ⟨m,hb0,V,hr,v,Q,k3⟩ W;simp only at m hb0 V hr v Q;subst m;have c:s.len=ys.length:=Q.len;refine ao (fun hlt=>?_) fun hge=>?_
 ·have hlt:a<s.len:=by omega
  have e0:ac .i64 (2*(a:Int))=((2*a:Nat):Int):=by rw[df (by omega)];omega
  rw[e0];refine LoopP.ghost (fun(g:List (Pr)×List (Pr)×List (Pr)) (t:Int×Int) h'=>t.1=(g.2.1.length:Int)∧t.2=((g.2.1.length+2*a:Nat):Int)∧ys=g.1++g.2.2∧Eqf lt g.1 g.2.1∧Full lt (2*a) g.2.1∧Runs lt a g.2.2∧OwnS dQ 2 33 M h' s (g.2.1++g.2.2)∧Upd M h h') (fun g=>g.2.2.length) ([],[],ys)
   ⟨rfl,by simp,rfl,Eqf.rfl _,Full.nil,hr,Q,k3⟩ ?_
  rintro I3 ⟨Y,D,T⟩ ⟨ta,tb⟩ h4 ⟨m,L,E,d,k,e,H,O⟩ hI3;simp only at m L E d k e H;subst m L E;have hYD:=d.len;simp only[ae]at c;have ea:ac .i64 ((D.length:Int)+(a:Int))=((D.length+a:Nat):Int):=by rw[df (by omega)];omega
  simp only;rw[ea];refine ao (fun hle=>?_) fun N=>?_
  ·obtain⟨B1,T1,rfl,Z,n,u⟩:=e.split (by omega)
   simp only[ae]at c;obtain⟨B2,T2,rfl,hB2,sB2,hr2⟩:=u.split (by omega);simp only[ae]at c;refine Ag w hc i (B1.length+B2.length) (ai _) H (hc.step O hi) (by omega) (by omega) n sB2 rfl (by omega) (by omega) fun G R x o C=>?_
   have y:=o.eqf.len;rw[ae]at y;have A:ac .i64 (((D.length+2*a:Nat):Int)+((2*a:Nat):Int))=(((D++R).length+2*a:Nat):Int):=by rw[ae,df (by omega)];omega
   rw[A];refine hI3 (Y++(B1++B2),D++R,T2) _ _ ⟨by simp only[ae];omega,rfl,by simp,d.app o.eqf,k.app (by omega) o.srt,hr2,by rw[aE];exact x,O.trans C fun b hb=>.inl hb⟩ (by simp only[ae];omega)
  ·refine Join.intro (fun _ G=>∃R,Eqf lt T R∧Runs lt (2*a) R∧OwnS dQ 2 33 M G s (D++R)∧Upd M h G) (fun Rj F=>?_) ?_
   ·refine ao (fun hmn=>?_) fun hmn=>?_
    ·obtain⟨B1,T1,rfl,Z,n,u⟩:=e.split (by omega)
     simp only[ae]at c;have f1:D++(B1++T1)=D++(B1++(T1++ [])):=by simp
     rw[f1]at H;refine Ag w hc i (B1.length+T1.length) (ai _) H (hc.step O hi) (by omega) (by omega) n (u.short (by omega)) rfl (by omega) (by omega) fun G R x o C=>?_
     have y:=o.eqf.len;rw[ae]at y;rw[be]at x;exact F _ _ ⟨R,o.eqf,.last R (by omega) o.srt,x,O.trans C fun b hb=>.inl hb⟩
    ·exact F _ _ ⟨T,Eqf.rfl _,.last T (by omega) (e.short (by omega)),H,O⟩
   ·rintro _ G ⟨R,q5,r5,x,C⟩
    have A:ac .i64 ((a:Int)*2)=((2*a:Nat):Int):=by rw[df (by omega)];omega
    rw[A];exact W (2*a,D++R) _ _ ⟨rfl,by simp only;omega,by simp only;omega,k R r5,v.tr (d.app q5),x,C⟩ (by simp only;omega)
 ·exact hk h3 ys Q ⟨v,hr.short (by omega)⟩ k3
end Go.Proofs
namespace Go.Proofs
open Go Go.Lift
variable {z0:Hs}
end Go.Proofs
namespace Go.Proofs
open Go Go.Lift
def StP(N:Nat):Prop:=∀{lt:Pr→Pr→Bool},WO lt→∀{M:Nat→Prop} {Iv:ad→Prop} {cmp:Value},Cmp lt dQ M Iv cmp→∀{h:ad} {s:SliceV} {xs:List Pr},OwnS dQ 2 33 M h s xs→Iv h→xs.length≤N→∀{K:Unit→ad→Prop},
 (∀h' R,OwnS dQ 2 33 M h' s R→St lt xs R→Upd M h h'→K () h')→dd 320 [.slice s.a s.len s.cap,cmp] K h
theorem stP:StP 100000000:=fun w _ _ _ hc _ _ _ a hi c _ b=>M5 w hc a hi c b
end Go.Proofs
namespace Go.Proofs
open Go Go.Lift
def UT(a b:Pr):Bool:=decide (kl a.1 b.1)
theorem Wn:WO UT:=by
 refine⟨fun a=>decide_eq_false (bN _),fun a b h=>decide_eq_false fun k=>bN _ (dw (of_decide_eq_true h) k),fun a b c h k=>decide_eq_false fun d=>?_⟩
 have h:=of_decide_eq_false h;have k:=of_decide_eq_false k;by_cases e:b.1=c.1
 ·rw[←e]at d;exact h d
 ·have f:=kz k e
  exact h (dw d f)
theorem Vg(x a:Pr):Me UT x a=decide (a.1=x.1):=by
 unfold Me UT;by_cases e:a.1=x.1
 ·rw[decide_eq_true e,e,decide_eq_false (bN _)];rfl
 ·rw[decide_eq_false e]
  by_cases h:kl a.1 x.1
  ·rw[decide_eq_true h];rfl
  ·rw[decide_eq_false h,decide_eq_true (kz h e)];rfl
def jh(l:List Pr)(k:ByteArray):Option Pr:=(l.filter fun q=>decide (q.1=k)).getLast?
theorem rK(q:Pr)(l:List Pr)(k:ByteArray):jh (q::l) k=if q.1=k then some ((jh l k).getD q)else jh l k:=by
 unfold jh;rw[List.filter_cons];by_cases h:q.1=k
 ·rw[if_pos (decide_eq_true h),if_pos h,List.getLast?_cons]
 ·rw[if_neg (by simpa using h),if_neg h]
theorem QC{l:List Pr}{k:ByteArray}{p:Pr}(h:jh l k=some p):p.1=k:=by
 unfold jh at h;have:=List.mem_of_getLast? h;exact of_decide_eq_true (bE.1 this).2
theorem H1{l:List Pr}{k:ByteArray}{p:Pr}(h:jh l k=some p):p∈l:=by
 unfold jh at h;exact(bE.1 (List.mem_of_getLast? h)).1
theorem NM{l:List Pr}{k:ByteArray}(h:∀q∈l,q.1≠k):jh l k=none:=by
 unfold jh;rw[List.filter_eq_nil_iff.2 fun q a=>by simpa using h q a];rfl
theorem Tf{l l':List Pr}(h:Eqf UT l l')(k:ByteArray):jh l' k=jh l k:=by
 unfold jh;have:=h.flt (k,k);have e:∀m:List Pr,m.filter (Me UT (k,k))=m.filter fun q=>decide (q.1=k):=fun m=>List.filter_congr fun q _=>Vg (k,k) q
 rw[e,e]at this;rw[this]
def K4(l:List Pr):List Pr:=l.foldl (fun acc p=>fG p acc) []
theorem B9:∀(l:List Pr) {acc:List Pr},bM acc→bM (l.foldl (fun acc p=>fG p acc) acc)∧∀p,p∈l.foldl (fun acc p=>fG p acc) acc↔jh l p.1=some p∨(jh l p.1=none∧p∈acc)
 | [],acc,hr=>⟨hr,fun p=>by simp[jh]⟩
 |q::l,acc,hr=>by
  obtain⟨d,c⟩:=B9 l (nI q hr);refine⟨d,fun p=>?_⟩
  rw[List.foldl_cons,c p,rK,pU hr];by_cases e:q.1=p.1
  ·rw[if_pos e]
   cases hl:jh l p.1 with
   |none=>
    simp only[Option.getD_none,Option.some.injEq,reduceCtorEq,false_or,false_and,or_false];constructor
    ·rintro⟨_,rfl|⟨_,h⟩⟩
     ·rfl
     ·exact absurd e.symm h
    ·rintro rfl;exact⟨trivial,.inl rfl⟩
   |some r=>simp
  ·rw[if_neg e]
   constructor
   ·rintro(h|⟨h,rfl|⟨a,_⟩⟩)
    ·exact .inl h
    ·exact absurd rfl e
    ·exact .inr ⟨h,a⟩
   ·rintro(h|⟨h,a⟩)
    ·exact .inl h
    ·exact .inr ⟨h,.inr ⟨a,fun b=>e b.symm⟩⟩
theorem Hy(l:List Pr):bM (K4 l):=(B9 l cf).1
theorem Ps{l:List Pr}{p:Pr}:p∈K4 l↔jh l p.1=some p:=by
 have:=(B9 l (acc:= []) cf).2 p;unfold K4;rw[this];simp
def kw:List Pr→List Pr
 | []=> []
 | [p]=> [p]
 |p::q::l=>if q.1=p.1 then kw (q::l)else p::kw (q::l)
theorem pX(p q:Pr)(l:List Pr):kw (p::q::l)=if q.1=p.1 then kw (q::l)else p::kw (q::l):=rfl
theorem zn:∀(l:List Pr),∀p∈kw l,p∈l
 | [],p,h=>h
 | [q],p,h=>h
 |q::r::l,p,h=>by
  rw[pX]at h;split at h
  ·exact ax _ (zn (r::l) p h)
  ·rcases aq.1 h with rfl|h
   ·exact ar ..
   ·exact ax _ (zn (r::l) p h)
theorem H0:∀{l:List Pr},Srt UT l→bM (kw l)∧∀p,p∈kw l↔jh l p.1=some p
 | [],_=>⟨cf,fun p=>by simp[kw,jh]⟩
 | [q],_=>⟨List.pairwise_singleton ..,fun p=>by
   show p∈[q]↔_
   rw[al,rK]
   by_cases e:q.1=p.1
   ·rw[if_pos e];simp[jh,eq_comm]
   ·rw[if_neg e];simp only[jh,List.filter_nil,List.getLast?_nil,reduceCtorEq,iff_false]
    rintro rfl;exact e rfl⟩
 |p::q::l,hs=>by
  have b:=ay.1 hs;obtain⟨g,i⟩:=H0 (l:=q::l) b.2;rw[pX];by_cases e:q.1=p.1
  ·rw[if_pos e]
   refine⟨g,fun r=>?_⟩
   rw[i r,rK p];by_cases a:p.1=r.1
   ·rw[if_pos a]
    have:jh (q::l) r.1≠none:=by
     rw[rK,if_pos (e.trans a)];simp
    cases hl:jh (q::l) r.1 with
    |none=>exact absurd hl this
    |some z=>simp
   ·rw[if_neg a]
  ·rw[if_neg e]
   have f:∀r∈q::l,kl p.1 r.1:=fun r d=>by
    have c:kl p.1 q.1:=by
     have:=of_decide_eq_false (b.1 q (ar ..));exact kz this e
    rcases aq.1 d with rfl|d
    ·exact c
    ·have:=of_decide_eq_false ((ay.1 b.2).1 r d)
     by_cases a:r.1=q.1
     ·rw[a];exact c
     ·exact dw c (kz this a)
   refine⟨ay.2 ⟨fun r d=>f r (zn _ r d),g⟩,fun r=>?_⟩
   rw[aq,i r,rK p];by_cases a:p.1=r.1
   ·rw[if_pos a]
    have j:jh (q::l) r.1=none:=NM fun z m k=>by
     have:=f z m;rw[k,a]at this;exact bN _ this
    rw[j];simp[eq_comm]
   ·rw[if_neg a]
    constructor
    ·rintro(rfl|h)
     ·exact absurd rfl a
     ·exact h
    ·exact .inr
theorem NL{l ys:List Pr}(h:St UT l ys):kw ys=K4 l:=by
 obtain⟨b,a⟩:=H0 h.srt;refine uF b (Hy l) fun p=>?_
 rw[a p,Ps,Tf h.eqf]
theorem XU(M:Nat→Prop):Cmp UT dQ M (fun _=>True) (.func (.func 321) #[] #[]):=by
 refine⟨fun a b h K _ e=>HV.mk' (cW (wy a b) .nil Tryz.func321 Tryz.call321 ?_),fun _ h=>h⟩
 dsimp only[wy,oW,mF,bi,fY,p8,yg];refine ba fun g b1 k1=>ba fun i b2 c=>?_
 have c1:=c.get0 b1;refine⟨a.1,vc c1 0,a.2,vc c1 1,b.1,vc b2 0,?_⟩;refine LC fun f d=>e f _ ((k1.tr c).tr d) ?_
 unfold uK UT;split
 ·rename_i h;rw[decide_eq_true h];rfl
 ·rename_i h
  rw[decide_eq_false h];split<;>rfl
theorem Fv:∀(l:List Pr),(kw l).length≤l.length
 | []=>ai _
 | [_]=>ai _
 |p::q::l=>by
  rw[pX];have:=Fv (q::l);split
  ·simp only[au]at this⊢;omega
  ·simp only[au]at this⊢;omega
theorem Sx{h:ad}{t:TypeId}{p:Pr}{k:ad→Prop}(b:∀h',h'[h.size]? =some (.cells #[.string p.1,.string p.2] t (0,0))→Upd No h h'→k h'):
 At (hnew h [.string (⟨#[]⟩:ByteArray),.string (⟨#[]⟩:ByteArray)] t) (fun a=>pk a (some (aL h)) 0 [.string p.1,.string p.2]∧At (eN a (aL h) 0 [.string p.1,.string p.2]) k):=yx (p:=p) b
theorem M7{N:Nat}(st:StP N)(hN:N≤100000000){W W':Nat→Prop}{h:ad}{s:SliceV}{l:List Pr}(hs:Sl dQ 2 W h s l)(hW':∀y,W' y→y<h.size)(hn:l.length≤N){K:SliceV→ad→Prop}
  (hk:∀s' h',Sl dQ 2 W' h' s' (K4 l)→s'.len≤s'.cap→Upd No h h'→K s' h'):eP 311 [.slice s.a s.len s.cap] K h:=by
 refine cW (yM s) Hn Tryz.func311 Tryz.call311 ?_;dsimp only[yM,cB,nv,kJ,mY,jA,fQ,mF,bi,rY,Hf,cZ,mN,Gb,DF,fY];refine uL hs (by omega) fun J h1 S A=>?_
 refine st Wn (XU _) S trivial (by omega) fun h2 ys z B Z=>?_
 have hyl:=B.eqf.len;have D:Upd No h h2:=A.trans Z fun x hx=>.inr hx
 have hlen:=z.len;have n:=NL B;have z1:=A.size;have hll:=Fv ys;refine LoopP.ghost (fun(g:List Pr×List Pr×List Pr) (t:Int×Int) h'=>t.1=(g.1.length:Int)∧t.2=((g.1.length+g.2.1.length:Nat):Int)∧g.1++kw g.2.2=kw ys∧g.1.length+g.2.1.length+g.2.2.length=ys.length∧OwnS dQ 2 33 (fun b=>h.size≤b) h' J (g.1++(g.2.1++g.2.2))∧Upd No h h') (fun g=>g.2.2.length) ([],[],ys)
  ⟨rfl,rfl,rfl,by simp,z,D⟩ ?_
 rintro I ⟨R,G,T⟩ ⟨tn,ti⟩ h3 ⟨e1,H,j,d,f,C⟩ hI;(try simp only at e1 H j d f)
 subst e1 H;refine ao (fun hlt=>?_) fun hge=>?_
 ·match T with
  | []=>simp only[bA]at d;omega
  |p::T=>
   simp only[au]at d;have ew:ac .i64 (((R.length+G.length:Nat):Int)+1)=((R.length+G.length+1:Nat):Int):=by rw[df (by omega)];omega
   (try simp only)
   rw[ew];refine Join.intro (fun n' h'=>∃R' G',n'=(R'.length:Int)∧R'.length+G'.length=R.length+G.length+1∧R'++kw T=kw ys∧OwnS dQ 2 33 (fun b=>h.size≤b) h' J (R'++(G'++T))∧Upd No h h') (fun Rj o=>?_) ?_
   ·obtain⟨a,F,hv⟩:=xR f (i:=R.length+G.length) (x:=p) (by rw[bq (by omega),dU,bq (ai _),gY];rfl)
    refine⟨⟨by omega,by omega⟩,a,F,p.1,hv 0 _ rfl,p.2,hv 1 _ rfl,?_⟩
    refine Sx (p:=p) fun h4 b4 k4=>?_
    have k:=f.upd k4 fun _ _ h=>h
    have u:=C.tr k4;refine Join.intro (fun t h'=>h'=h4∧(t=true↔∃q v,T=q::v∧q.1=p.1)) (fun Rk w=>?_) ?_
    ·refine ao (fun hlt2=>?_) fun hge2=>w _ _ ⟨rfl,⟨fun h=>(by cases h),fun⟨q,v,e,_⟩=>(by subst e;simp only[au]at d;omega)⟩⟩
     rcases T with _|⟨q,T⟩
     ·simp only[bA]at d;omega
     ·obtain⟨a',X,Q⟩:=xR k (i:=R.length+G.length+1) (x:=q) (by rw[bq (by omega),show R.length+G.length+1-R.length=G.length+1 by omega,bq (by omega),dU];rfl)
      refine⟨⟨by omega,by omega⟩,a',X,q.1,Q 0 _ rfl,p.1,vc b4 0,w _ _ ⟨rfl,?_⟩⟩
      rw[dI,decide_eq_true_iff];exact⟨fun e=>⟨q,T,rfl,e⟩,fun⟨q',v,e,e'⟩=>by cases e;exact e'⟩
    ·rintro t h5 ⟨rfl,ht⟩
     ·cases t with
      |true=>
       obtain⟨q,v,rfl,eq⟩:=ht.1 rfl;refine aw.2 (o _ _ ⟨R,G++ [p],rfl,by simp;omega,?_,by simpa using k,u⟩)
       rw[←j,pX,if_pos eq]
      |false=>
       have E:kw (p::T)=p::kw T:=by
        rcases T with _|⟨q,v⟩
        ·rfl
        ·rw[pX,if_neg fun e=>by have:=ht.2 ⟨q,v,rfl,e⟩;cases this]
       refine ag.2 ⟨p.1,vc b4 0,p.2,vc b4 1,⟨by omega,by omega⟩,a,F,?_⟩
       have V:ac .i64 ((R.length:Int)+1)=((R++ [p]).length:Int):=by rw[ae,bh,df (by omega)];omega
       rw[V];rcases G with _|⟨g,G⟩
       ·rw[cS]at k
        refine ui k p F (by simp) fun h6 U O=>o _ _ ⟨R++ [p],[],rfl,by simp,?_,by simpa using U,u.trans O fun b hb=>.inr hb⟩
        rw[←j,E];simp
       ·have f1:R++((g::G)++p::T)=R++g::(G++p::T):=by simp
        rw[f1]at k;refine ui k p F (by simp) fun h6 U O=>o _ _ ⟨R++ [p],G++ [p],rfl,by simp;omega,?_,by simpa using U,u.trans O fun b hb=>.inr hb⟩
        rw[←j,E];simp
   ·rintro n' h6 ⟨R',G',rfl,hc6,hl6,P,L⟩
    exact hI (R',G',T) _ _ ⟨rfl,by(try simp only);rw[hc6],hl6,by(try simp only);omega,P,L⟩ (by simp)
 ·have E:T= []:=aG.1 (by omega)
  subst E;simp only[bA]at d;simp only[kw,be]at j f;have hcap:=f.cap;refine⟨⟨by(try simp only);omega,by(try simp only);omega⟩,?_⟩
  have Y:=f.sl (W:=W') fun x hx _ hw=>by have:=hW' x hw;omega
  have hA:=Sl.sub Y (l:=0) (hi:=R.length) (m:=J.cap) (c:=J.cap-0) (aN _) (by simp) (by omega);have H:((R++G).drop 0).take (R.length-0)=K4 l:=by rw[List.drop_zero,Nat.sub_zero,List.take_left];exact j.trans n
  rw[H]at hA;exact hk _ _ hA (by(try simp only);omega) C
theorem P7{W W':Nat→Prop}{h:ad}{s:SliceV}{l:List Pr}(b:Sl dQ 2 W h s l)(a:∀y,W' y→y<h.size)(d:l.length≤10000000){K:SliceV→ad→Prop}
 (c:∀s' h',Sl dQ 2 W' h' s' (K4 l)→s'.len≤s'.cap→Upd No h h'→K s' h'):eP 311 [.slice s.a s.len s.cap] K h:=M7 stP (ai _) b a (by omega) c
end Go.Proofs
namespace Go.Proofs
open Go Go.Lift
theorem Sz{β:Type}{g:Nat→Option β}{n:Nat}{y:β}:y∈fm g n↔∃c,c<n∧g c=some y:=by
 unfold fm;rw[List.mem_filterMap];exact⟨fun⟨c,b,a⟩=>⟨c,fj.1 b,a⟩,fun⟨c,b,a⟩=>⟨c,fj.2 b,a⟩⟩
def wl(x:Hs):Nat→List Pr→List Pr
 |0,l=>l
 |m+1,l=>uE x (12-m) l++(w6 x (12-m) l).flatMap (wl x m)
theorem IW(x:Hs)(m:Nat)(l:List Pr):wl x (m+1) l=uE x (12-m) l++(w6 x (12-m) l).flatMap (wl x m):=rfl
theorem Fj{x:Hs}{p:Pr}:∀(m:Nat) {l:List Pr},p∈wl x m l↔p∈l
 |0,_=>Iff.rfl
 |m+1,l=>by
  rw[IW,aF,List.mem_flatMap];constructor
  ·rintro(h|⟨L,d,h⟩)
   ·exact HR h
   ·obtain⟨_,c,rfl⟩:=HS d
    exact(lw.1 ((Fj m).1 h)).1
  ·intro h
   have hm:p∈part x (12-m) (ck x (12-m) p.1) l:=lw.2 ⟨h,rfl⟩;have hc:=yA x (12-m) p.1;rcases d:part x (12-m) (ck x (12-m) p.1) l with _|⟨a,_|⟨b,r⟩⟩
   ·rw[d]at hm;cases hm
   ·left
    rw[d]at hm;rw[al.1 hm];unfold uE;exact Sz.2 ⟨_,hc,by show Jl (part x (12-m) (ck x (12-m) p.1) l)=_;rw[d];rfl⟩
   ·right
    refine⟨a::b::r,?_,(Fj m).2 (by rw[←d];exact hm)⟩;unfold w6;exact Sz.2 ⟨_,hc,by show B0 (part x (12-m) (ck x (12-m) p.1) l)=_;rw[d];rfl⟩
theorem L6{f:List Pr→List Pr}(h:∀l,(f l).length≤l.length):∀ls:List (List Pr),(ls.flatMap f).length≤ls.flatten.length
 | []=>ai _
 |l::ls=>by
  have b:=h l;have a:=L6 h ls;rw[aU,List.flatten_cons,ae,ae];omega
theorem IX(x:Hs):∀(m:Nat) (l:List Pr),(wl x m l).length≤l.length
 |0,_=>ai _
 |m+1,l=>by
  rw[IW,ae];have b:=Hz x (12-m) l;have a:=L6 (IX x m) (w6 x (12-m) l);omega
theorem V7{x:Hs}{m:Nat}{l:List Pr}(b:bM l):K4 (wl x m l)=l:=by
 refine uF (Hy _) b fun p=>?_
 rw[Ps];constructor
 ·intro h;exact(Fj m).1 (H1 h)
 ·intro h
  have d:p∈(wl x m l).filter fun q=>decide (q.1=p.1):=bE.2 ⟨(Fj m).2 h,decide_eq_true rfl⟩
  have a:jh (wl x m l) p.1≠none:=by
   unfold jh;intro e;rw[List.getLast?_eq_none_iff]at e;rw[e]at d;cases d
  cases hl:jh (wl x m l) p.1 with
  |none=>exact absurd hl a
  |some q=>
   have c:=QC hl;have i:=(Fj m).1 (H1 hl);have f:(p.1,q.2)∈l:=by rw[←c];exact i
   have g:=E5 b (k:=p.1) (v:=p.2) (w:=q.2) h f;rw[Prod.ext c g.symm]
def cw(x:Hs):Nat→List Pr→Nat
 |0,_=>2
 |m+1,l=>2+((w6 x (12-m) l).map (cw x m)).sum
structure Fr where
 sp:SliceV
 sk:SliceV
 n:Nat
 ps:List Pr
 ks:List (Nat×List Pr)
abbrev Rp(v:SliceV×SliceV):List Value:= [sv v.1,sv v.2]
theorem S4(x:SliceV×SliceV):(Rp x).length=2∧0<2:=⟨rfl,by omega⟩
def Fr.raw(f:Fr):SliceV×SliceV:=(f.sp,f.sk)
def Fr.rem(x:Hs)(f:Fr):List Pr:=f.ps++f.ks.flatMap fun k=>wl x (f.n-1) k.2
def Fr.cost(x:Hs)(f:Fr):Nat:=1+(f.ks.map fun k=>cw x (f.n-1) k.2).sum
def BT(x:Hs)(l:List Fr):List Pr:=l.reverse.flatMap (Fr.rem x)
def CZ(x:Hs)(l:List Fr):Nat:=(l.map (Fr.cost x)).sum
theorem xQ(x:Hs)(l:List Fr)(f:Fr):BT x (l++ [f])=f.rem x++BT x l:=by unfold BT;rw[List.reverse_append];rfl
theorem zw(x:Hs)(l:List Fr)(f:Fr):CZ x (l++ [f])=CZ x l+f.cost x:=by unfold CZ;rw[List.map_append,List.sum_append];simp
abbrev LO(k:Nat×List Pr):Option Addr:=some ⟨k.1,0,none⟩
structure Fr.Ok(W G:Nat→Prop)(x:Hs)(h:ad)(f:Fr):Prop where
 p:Sl dQ 2 (fun y=>¬G y) h f.sp f.ps
 k:Sl qp 1 (fun y=>¬G y) h f.sk (f.ks.map LO)
 pc:f.sp.len≤f.sp.cap
 kc:f.sk.len≤f.sk.cap
 t:∀k∈f.ks,TrieAt W x h (f.n-1) k.1 k.2∧k.2.length≤100000
 n0:f.ks≠[]→0<f.n
 n13:f.n≤13
theorem Fr.Ok.upd{W G M:Nat→Prop}{x:Hs}{h h':ad}{f:Fr}(o:f.Ok W G x h)(k:Upd M h h')(d:∀b,M b→W b∨h.size≤b)(a:∀b,M b→¬G b∨h.size≤b):f.Ok W G x h':=
 ⟨o.p.upd k a,o.k.upd k a,o.pc,o.kc,fun q c=>⟨TrieAt.updM k d (o.t q c).1,(o.t q c).2⟩,o.n0,o.n13⟩
theorem Fr.Ok.sub{W G G':Nat→Prop}{x:Hs}{h:ad}{f:Fr}(o:f.Ok W G x h)(c:∀b,G b→G' b):f.Ok W G' x h:=
 ⟨o.p.less fun b hb=>.inl fun a=>hb (c b a),o.k.less fun b hb=>.inl fun a=>hb (c b a),o.pc,o.kc,o.t,o.n0,o.n13⟩
abbrev XT(s:SliceV)(d:Int):Array Value:= #[sv s,.int .i64 d]
structure CurW(W G C:Nat→Prop)(x:Hs)(h:ad)(cb:Nat)(fs:List Fr):Prop where
 ex:∃s d,h[cb]? =some (.cells (XT s d) 418 (0,0))∧OwnS Rp 2 414 C h s (fs.map Fr.raw)
 ok:∀f∈fs,f.Ok W G x h
 lt:∀b,(C b∨G b)→b<h.size
 dj:∀b,G b→¬C b∧b≠cb
 cc:¬C cb
 cw:(∀b,C b→W b)∧W cb
 lv:fs.Pairwise fun f g=>g.n<f.n
theorem CurW.upd{W G C M:Nat→Prop}{x:Hs}{h h':ad}{e:Nat}{g:List Fr}(c:CurW W G C x h e g)(k:Upd M h h')(i:∀b,M b→W b∨h.size≤b)(q:∀b,C b→¬M b)(n:∀b,G b→¬M b)(a:¬M e):CurW W G C x h' e g:=by
 obtain⟨s,d,j,p⟩:=c.ex;exact⟨⟨s,d,k.get j a,p.upd k q⟩,fun f m=>(c.ok f m).upd k i fun b hb=>.inl fun o=>n b o hb,fun b hb=>Nat.lt_of_lt_of_le (c.lt b hb) k.size,c.dj,c.cc,c.cw,c.lv⟩
theorem SE:∀{a:List Fr} {n:Nat},a.Pairwise (fun f g=>g.n<f.n)→(∀f∈a,f.n≤n)→a.length≤n+1
 | [],_,_,_=>aN _
 |f::a,n,b,hn=>by
  have b:=ay.1 b;have d:=hn f (ar ..);rcases a with _|⟨g,a⟩
  ·simp
  ·have c:=b.1 g (ar ..)
   have:=SE (n:=f.n-1) b.2 fun g c=>by have:=b.1 g c;omega
   rw[au];omega
theorem O5{α:Type}{f:α→List Value}{sz:Nat}{t:TypeId}{M:Nat→Prop}{h:ad}{s:SliceV}{P Q:List α}{x y:α}{j:Nat}{v:Value}(k:OwnS f sz t M h s (P++x::Q))(E:j<sz)(B:f y=(f x).set j v){a:Addr}(u:s.a=some a){i:Nat}(hi:i=P.length){G:ad→Prop}(C:∀h',OwnS f sz t M h' s (P++y::Q)→Upd M h h'→G h'):
  Wr h (adr (adr a (i*sz)) j)∧At (hset h (adr (adr a (i*sz)) j) v) G:=by
 subst hi;have p:=k.ne;have c:=k.len;have e:=k.cap;rcases k.blk with D|⟨b,d,g,hb,hc,w⟩
 ·rw[ae,au]at c;omega
 rw[u]at g;cases g;have F:(P.flatMap f).length=P.length*sz:=iV p P;rw[co,aU]at hc;have H:=(p x).1;have A:adr (adr ⟨b,0,none⟩ (P.length*sz)) j=⟨b,P.length*sz+j,none⟩:=by rw[ce,ce,Nat.zero_add]
 rw[A];have o:P.length*sz+j<(P.flatMap f++(f x++Q.flatMap f)++d).toArray.size:=by
  simp only[List.size_toArray,ae];omega
 refine⟨eC hc o,zA hc fun h' m n=>C h' ⟨by rw[c];simp,p,e,.inr ⟨b,d,u,hb,?_,w⟩⟩ (n.mono fun z q=>.inl (by have q:z=b:=q;rw[q];exact hb))⟩
 rw[m];congr 3
 rw[co,aU,B];apply Array.toList_inj.1;rw[Array.toList_setIfInBounds];simp only[aE];rw[List.set_append_right _ _ (by omega),show P.length*sz+j-(P.flatMap f).length=j by omega,List.set_append_left _ _ (by omega)]
theorem H2{W:Nat→Prop}{x:Hs}{h:ad}{m:Nat}:∀{ks:List (Option Addr)} {ls:List (List Pr)},KidsAt W x h m ks ls→∃q:List (Nat×List Pr),ks=q.map LO∧ls=q.map (·.2)∧∀k∈q,TrieAt W x h m k.1 k.2
 | [],[],_=>⟨[],rfl,rfl,fun k b=>by cases b⟩
 |_::_,[],h=>h.elim
 | [],_::_,h=>h.elim
 |k::ks,l::ls,b=>by
  obtain⟨⟨f,e,t⟩,c⟩:=b;obtain⟨q,d,g,i⟩:=H2 c;refine⟨(f,l)::q,by rw[e,d];rfl,by rw[g];rfl,fun k' a=>?_⟩
  rcases aq.1 a with rfl|a
  ·exact t
  ·exact i k' a
theorem Hr{W:Nat→Prop}{x:Hs}{h:ad}{m b:Nat}{l:List Pr}(t:TrieAt W x h m b l)(hm:m≤13)(S:l.length≤100000){K:SliceV×SliceV→ad→Prop}
  (w:∀h' f,f.n=m→Fr.rem x f=wl x m l→f.cost x+1=cw x m l→f.Ok W (fun y=>h.size≤y∧y<h'.size) x h'→Upd No h h'→K f.raw h'):SS 329 [gS b] K h:=by
 refine Ix (some ⟨b,0,none⟩) ?_;unfold Cr dt RF dM Rr;refine ba fun i b1 k1=>?_
 have P:=TrieAt.upd0 k1 (TrieAt.less (W':=Pro W h i) Pro.hm t);obtain⟨d,n,sp,sk,T,ow,E,q,hb,o,p,X,hq,N,hcw,A,G⟩:∃d n sp sk T ow E,∃q:List (Nat×List Pr),i[b]? =some (.cells (dY d n sp sk T ow) 324 (0,0))∧Sl dQ 2 (Pro W h i) i sp E∧Sl qp 1 (Pro W h i) i sk (q.map LO)∧E.length≤100000∧q.length≤32∧(E++q.flatMap fun k=>wl x (m-1) k.2)=wl x m l∧2+(q.map fun k=>cw x (m-1) k.2).sum=cw x m l∧(∀k∈q,TrieAt (Pro W h i) x i (m-1) k.1 k.2∧k.2.length≤100000)∧(q≠[]→0<m):=by
  cases m with
  |zero=>
   obtain⟨sp,sk,ow,hb,o,p,_⟩:=BuckAt.ex P;exact⟨0,0,sp,sk,true,ow,l,[],hb,o,p,S,by simp,by simp[wl],by simp[cw],fun k w=>(by cases w),fun h=>absurd rfl h⟩
  |succ m=>
   obtain⟨s,nd,F⟩:=P;have F:∀c,c<32→SlotIs (Pro W h i) x i m s c (part x (12-m) c l):=F;obtain⟨d,n,sp,sk,ow,hb,bits,o,p,_⟩:=nd.ex;have H:=SJ (W:=Pro W h i) (x:=x) (h:=i) (m:=m) (lev:=12-m) (s:=s) (l:=l) 32 F;obtain⟨q,U,D,Y⟩:=H2 H;have D:w6 x (12-m) l=q.map (·.2):=D
   have z:=O3 F;have Z:=Hz x (12-m) l;have R:=AG (g:=s.k);have hql:q.length=(fm s.k 32).length:=by rw[U,bS]
   refine⟨d,n,sp,sk,false,ow,fm s.p 32,q,hb,o,by rw[←U];exact p,by rw[z];omega,by omega,?_,?_,fun k w=>⟨Y k w,?_⟩,fun _=>Nat.succ_pos _⟩
   ·rw[IW,z,D,List.flatMap_map];rfl
   ·show _=2+_
    rw[D,List.map_map];rfl
   ·have:k.2∈w6 x (12-m) l:=by rw[D];exact List.mem_map.2 ⟨k,w,rfl⟩
    obtain⟨_,c,hc⟩:=HS this;rw[hc];exact Nat.le_trans pR S
 refine wW hb o (by omega) fun J h2 B j=>?_
 refine U0 (j.get0 hb) (p.upd j fun _ h=>h.elim) (by rw[bS];omega) fun L h3 C v=>?_
 have b3:=v.get0 (j.get0 b1);have z1:=k1.size;have z2:=j.size;have z3:=v.size;have zb:=bw b1;refine cn (c:= [.slice none 0 0,.slice none 0 0]) (vs:= [sv J,sv L]) b3 rfl fun Q V u=>?_
 refine⟨J,vc V 0,L,vc V 1,?_⟩;have z4:=u.size;have O:Upd No h Q:=((k1.tr j).tr v).own u (ai _);refine w Q ⟨J,L,m,E,q⟩ rfl N (by unfold Fr.cost;simp only;omega) ⟨?_,?_,B.cap,C.cap,fun k w=>⟨TrieAt.less (W:=Pro W h i) (fun y a=>.inl (.inl a)) (TrieAt.updM (M:=(· =h.size)) u (fun y a=>.inl (.inr (by have a:y=h.size:=a;omega))) (TrieAt.upd0 (j.tr v) (A k w).1)),(A k w).2⟩,G,hm⟩ O
 ·exact(((B.upd v fun _ _ h=>h).within).upd u fun y a e=>by have e:y=h.size:=e;have:=a.1;omega).sl fun y a _ I=>I ⟨by have:=a.1;omega,by have:=a.2;omega⟩
 ·exact(C.within.upd u fun y a e=>by have e:y=h.size:=e;have:=a.1;omega).sl fun y a _ I=>I ⟨by have:=a.1;omega,by have:=a.2;omega⟩
end Go.Proofs
