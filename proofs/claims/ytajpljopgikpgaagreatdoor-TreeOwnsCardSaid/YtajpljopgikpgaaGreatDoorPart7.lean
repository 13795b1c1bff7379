/- A part of the proof that the named laws of this program answer true, whatever the input. -/
import Derived.Test.YtajpljopgikpgaaGreatDoorPart6
import Derived.Test.YtajpljopgikpgaaGreatDoorLift3
open List renaming flatMap_cons→aR,getElem?_eq_getElem→af,length_set→iy,getElem?_set→fe,getElem?_eq_none→py,length_append→ad,length_singleton→aE,flatMap_append→bq,append_nil→bh,append_assoc→au,getElem?_append_right→aQ,length_cons→az,take_left→hO,getElem?_append_left→bQ,getElem?_eq_some_iff→bm,length_nil→bw,length_eq_zero_iff→aF,nil_append→dM,take_append_drop→aG,length_take→aD,length_drop→aO,mem_singleton→aq,mem_cons→aw,getElem_of_mem→bP,mem_of_getLast?→ia,mem_filter→d9,mem_cons_of_mem→aL,mem_cons_self→av,pairwise_cons→ba
open List.Pairwise renaming nil→ey
open Nat renaming zero_le→aS,le_refl→aj,sub_self→fY,eq_zero_or_pos→eJ,add_sub_cancel_left→fh
namespace Go.Proofs
open Go Go.Lift
abbrev Wk:=Option Addr×ByteArray×Bool
abbrev OH(x:Wk):List Value:= [.pointer x.1,.string x.2.1,.bool x.2.2]
theorem Ho(x:Wk):(OH x).length=3∧0<3:=⟨rfl,by omega⟩
theorem N4:∀xs:List Wk,cl (xs.flatMap OH)=true
 | []=>rfl
 |x::xs=>by rw[aR];exact kG rfl (N4 xs)
theorem QG{α:Type}{l:List α}{i:Nat}(hi:i<l.length)(x:α):l.take i++x::l.drop (i+1)=l.set i x:=by rw[List.set_eq_take_append_cons_drop,if_pos hi]
theorem LV{M:Nat→Prop}{h:ae}{s:SliceV}{xs:List Wk}(N:OwnS OH 3 dX M h s xs)(hn:xs.length≤1000000000){K:Unit→ae→Prop}(q:∀g,OwnS OH 3 dX M g s xs.reverse→Upd M h g→K () g):HC PG fq [.slice s.a s.len s.cap] [] K h:=by
 refine mp s ?_;unfold hH cQ aY qg f9 vN FA;have P:=N.len;have V:IntKind.wrap .i64 ((s.len:Int)-1)=(xs.length:Int)-1-((0:Nat):Int):=by rw[ji (by omega)];omega
 rw[V];refine LoopP.ghost (fun(i:Nat) (t:Int×Int) g=>t.1=(i:Int)∧t.2=(xs.length:Int)-1-(i:Int)∧i≤xs.length∧(∃ys,OwnS OH 3 dX M g s ys∧ys.length=xs.length∧∀k,k<xs.length→ys[k]? =if k<i∨xs.length-i≤k then xs[xs.length-1-k]? else xs[k]?)∧Upd M h g) (fun i=>xs.length-i) 0
  ⟨rfl,rfl,aS _,⟨xs,N,rfl,fun k q=>by rw[if_neg (by omega)]⟩,Upd.refl _ _⟩ ?_
 rintro I i ⟨ti,tj⟩ g ⟨S,Q,hi,⟨ys,c,E,f⟩,R⟩ X;simp only at S Q;subst S Q;refine aB (fun D=>?_) fun C=>?_
 ·have D:2*i+1<xs.length:=by have:(i:Int)<(xs.length:Int)-1-(i:Int):=D;omega
  obtain⟨j,U⟩:∃j:Nat,(xs.length:Int)-1-(i:Int)=(j:Int):=⟨xs.length-1-i,by omega⟩
  have Z:j=xs.length-1-i:=by omega
  simp only;rw[U];have d:i<ys.length:=by omega
  have o:j<ys.length:=by omega
  have sl:=c.sl (W:=No) fun _ _ _ h=>h
  obtain⟨a,p,_,hv⟩:=sl.at (af o);obtain⟨a',z,_,m⟩:=sl.at (af d);rw[p]at z;cases z;refine⟨⟨by omega,by omega⟩,a,p,ys[j].1,hv 0 _ rfl,ys[j].2.1,hv 1 _ rfl,ys[j].2.2,hv 2 _ rfl,⟨by omega,by omega⟩,a,p,ys[i].1,m 0 _ rfl,ys[i].2.1,m 1 _ rfl,ys[i].2.2,m 2 _ rfl,⟨by omega,by omega⟩,?_⟩
  obtain⟨b,u,v,Y,B,F⟩:=OwnS.setAt c d ys[j];rw[p]at u;cases u;rw[QG d]at B;refine⟨a,p,Y,bU ⟨⟨by omega,by omega⟩,a,p,?_⟩⟩
  obtain⟨b,u,_,H,A,J⟩:=OwnS.setAt B (k:=j) (by rw[iy];omega) ys[i];rw[p]at u;cases u;rw[QG (by rw[iy];omega)]at A;refine⟨H,bU ?_⟩;rw[cz (n:=xs.length) (by omega) (by omega)];have G:IntKind.wrap .i64 ((j:Int)-1)=(xs.length:Int)-1-((i+1:Nat):Int):=by rw[ji (by omega)];omega
  rw[G];refine X (i+1) _ _ ⟨rfl,rfl,by omega,⟨_,A,by rw[iy,iy];exact E,fun k q=>?_⟩,?_⟩ (by omega)
  ·rw[fe,iy]
   have O:=f i (by omega);have w:=f j (by omega);rw[if_neg (by omega),af d]at O;rw[if_neg (by omega),af o]at w;by_cases L:j=k
   ·rw[if_pos L,if_pos o,if_pos (by omega),O]
    congr 1;omega
   ·rw[if_neg L,fe]
    by_cases T:i=k
    ·rw[if_pos T,if_pos d,if_pos (by omega),w]
     congr 1;omega
    ·rw[if_neg T,f k q]
     by_cases x:k<i∨xs.length-i≤k
     ·rw[if_pos x,if_pos (by omega)]
     ·rw[if_neg x,if_neg (by omega)]
  ·exact(R.trans F fun y c=>.inl (by have c:y=a.block:=c;rw[c];exact v)).trans J fun y c=>.inl (by have c:y=a.block:=c;rw[c];exact v)
 ·have C:xs.length≤2*i+1:=by have:¬(i:Int)<(xs.length:Int)-1-(i:Int):=C;omega
  have e:ys=xs.reverse:=by
   apply List.ext_getElem?;intro k;by_cases q:k<xs.length
   ·rw[f k q,List.getElem?_reverse q]
    by_cases x:k<i∨xs.length-i≤k
    ·rw[if_pos x]
    ·rw[if_neg x];congr 1;omega
   ·rw[py (by omega),py (by rw[List.length_reverse];omega)]
  subst e;exact q _ c R
theorem OwnS.pop{α:Type}{f:α→List Value}{d:Nat}{t:TypeId}{M:Nat→Prop}{h:ae}{s:SliceV}{xs:List α}{x:α}(c:OwnS f d t M h s (xs++ [x])):OwnS f d t M h ⟨aV s.a 0 s.cap d,xs.length,s.cap⟩ xs:=by
 have g:=c.len;have hc:=c.cap;rw[ad,aE]at g;refine⟨rfl,c.ne,by simp only;omega,c.blk.imp id fun⟨b,a,e,i,aJ,j⟩=>⟨b,f x++a,?_,i,?_,?_⟩⟩
 ·simp only;rw[e,sub_zero]
 ·rw[aJ,bq,aR,List.flatMap_nil,bh,au]
 ·rw[ad,(c.ne x).1,j]
  simp only;have:s.cap-xs.length=(s.cap-s.len)+1:=by omega
  rw[this,Nat.add_mul];omega
structure It where
 b:Nat
 ah:ByteArray
 own:Bool
 sl:ByteArray
 w:Option ByteArray
 F:Fo
def It.raw(i:It):Wk:=(some ⟨i.b,0,none⟩,i.ah,i.own)
def It.key(i:It):List UInt8:=i.ah.data.toList++i.sl.data.toList
def It.prs(i:It):List (List UInt8×ByteArray):=if i.own then(i.w.map fun v=>(i.key,v)).toList else(l6 i.w i.F).map fun p=>(i.key++p.1,p.2)
def It.cost(i:It):Nat:=if i.own then 1 else 2+2*Ap i.F
def vf(l:List It):List (List UInt8×ByteArray):=l.reverse.flatMap It.prs
def kB(l:List It):Nat:=(l.map It.cost).sum
theorem Gy(l:List It)(i:It):vf (l++ [i])=i.prs++vf l:=by unfold vf;rw[List.reverse_append];rfl
theorem xw(l m:List It):kB (l++m)=kB l+kB m:=by unfold kB;rw[List.map_append,List.sum_append]
theorem QN(l m:List It):vf (l++m)=vf m++vf l:=by unfold vf;rw[List.reverse_append,bq]
end Go.Proofs
namespace Go.Proofs
open Go Go.Lift
section
variable {α:Type} {f:α→List Value} {sz:Nat} {t:TypeId} {M:Nat→Prop} {h:ae} {s:SliceV} {P Q:List α} {x:α}
theorem lC(b:OwnS f sz t M h s (P++x::Q)){i:Nat}(hi:i=P.length):∃a,s.a=some a∧∀j v,(f x)[j]? =some v→aJ h (adr (adr a (i*sz)) j)=some v:=by
 obtain⟨a,c,_,hv⟩:=(b.sl (W:=No) fun _ _ _ h=>h).at (i:=i) (x:=x) (by rw[hi,aQ (aj _),fY];rfl)
 exact⟨a,c,hv⟩
theorem tT(p:OwnS f sz t M h s (P++x::Q))(y:α){a:Addr}(j:s.a=some a){i:Nat}(hi:i=P.length){G:ae→Prop}(q:∀h',OwnS f sz t M h' s (P++y::Q)→Upd M h h'→G h'):
  uD h (some (adr a (i*sz))) 0 (f y)∧At (iC h (adr a (i*sz)) 0 (f y)) G:=by
 obtain⟨a',d,hM,o,c,m⟩:=OwnS.setAt p (k:=i) (by rw[hi,ad,az];omega) y;rw[j]at d;cases d;refine⟨o,bU (q _ ?_ (m.mono fun b e=>.inl (by have e:b=a.block:=e;rw[e];exact hM)))⟩
 subst hi;have g:(P++x::Q).take P.length=P:=hO;have n:(P++x::Q).drop (P.length+1)=Q:=by rw[←List.drop_drop,List.drop_left];rfl
 rw[g,n]at c;exact c
end
theorem xk{α:Type}{f:α→List Value}{b:Nat}{t:TypeId}{M:Nat→Prop}{h:ae}{s:SliceV}{xs:List α}{x:α}(c:OwnS f b t M h s xs){i:Nat}(hi:xs[i]? =some x):∃a,s.a=some a∧∀j v,(f x)[j]? =some v→aJ h (adr (adr a (i*b)) j)=some v:=by
 obtain⟨a,d,_,hv⟩:=(c.sl (W:=No) fun _ _ _ h=>h).at hi
 exact⟨a,d,hv⟩
theorem Ro{α:Type}{A U X:List α}{i:Nat}(hi:A.length+U.length≤i):(A++(U++X))[i]? =X[i-A.length-U.length]?:=by
 rw[aQ (by omega),aQ (by omega)]
theorem Rp{α:Type}{A U V B:List α}{i k:Nat}{x:α}(hi:A.length+U.length+k=i)(a:V[k]? =some x):(A++(U++(V++B)))[i]? =some x:=by
 rw[Ro (by omega),show i-A.length-U.length=k by omega,bQ (bm.1 a).1];exact a
theorem Oi{α:Type}{A U X:List α}{i k:Nat}{x:α}(hi:A.length+k=i)(a:U[k]? =some x):(A++(U++X))[i]? =some x:=by
 rw[aQ (by omega),show i-A.length=k by omega,bQ (bm.1 a).1];exact a
theorem Dn{i j:Nat}(h:i+j≤4000000000):IntKind.wrap .i64 (Int.fdiv (IntKind.wrap .u64 (IntKind.wrap .i64 ((i:Int)+(j:Int)))) (2^(min (1:Int).toNat (IntKind.bits .u64))))=(((i+j)/2:Nat):Int):=by
 have a:(2^(min (1:Int).toNat (IntKind.bits .u64)):Int)=2:=rfl;rw[a,ji (x:=(i:Int)+(j:Int)) (by omega),Go.IntWalk.u64_in _ (by omega),Int.fdiv_eq_ediv_of_nonneg _ (by omega),ji (by omega)];omega
theorem qB{α:Type}{lt:α→α→Bool}(w:WO lt){l:List α}(h:Srt lt l){i j:Nat}(d:i≤j){x y:α}(hx:l[i]? =some x) (b:l[j]? =some y):lt y x=false:=by
 obtain⟨hi,rfl⟩:=bm.1 hx;obtain⟨c,rfl⟩:=bm.1 b;rcases Nat.lt_or_ge i j with a|a
 ·exact List.pairwise_iff_getElem.1 h i j hi c a
 ·have:i=j:=by omega
  subst this;exact w.irr _
theorem Ig{α:Type}(l:List α):l= []∨∃l' y,l=l'++ [y]:=by
 rcases List.eq_nil_or_concat l with h|⟨l',y,h⟩
 ·exact .inl h
 ·exact .inr ⟨l',y,by rw[h,List.concat_eq_append]⟩
structure Cmp{α:Type}(lt:α→α→Bool)(f:α→List Value)(M:Nat→Prop)(Iv:ae→Prop)(V:Value):Prop where
 call:∀(a b:α) {h:ae} {K:Int→ae→Prop},Iv h→(∀h' e,Upd No h h'→decide (e<0)=lt a b→K e h')→HV PG V [.agg (f a).toArray,.agg (f b).toArray] [.c (.int .i64)] K h
 step:∀{h h':ae},Upd M h h'→Iv h→Iv h'
end Go.Proofs
namespace Go.Proofs
open Go Go.Lift
variable {z0:Hs}
end Go.Proofs
namespace Go.Proofs
open Go Go.Lift
theorem tS{M:Nat→Prop}{h:ae}{s:SliceV}{A U C V B:List (Pr)}(G:OwnS eg 2 ar M h s (A++(U++(C++(V++B)))))(hn:s.len≤1000000000)(e:U.length=V.length){a b:Nat}(f:a=A.length)(o:b=A.length+U.length+C.length){n:Nat}(E:n=U.length){x:Value}{K:Unit→ae→Prop}
  (S:∀k,OwnS eg 2 ar M k s (A++(V++(C++(U++B))))→Upd M h k→K () k):HC PG dg [.slice s.a s.len s.cap,.int .i64 a,.int .i64 b,.int .i64 n,x] [] K h:=by
 subst f o E;refine nr s A.length (A.length+U.length+C.length:Nat) U.length x ?_;unfold iP bR cQ qg im;have d:=G.len;simp only[ad]at d;refine LoopP.ghost (fun(g:(List (Pr)×List (Pr))×List (Pr)×List (Pr)) (t:Int) k=>t=(g.1.1.length:Int)∧U=g.1.1++g.1.2∧V=g.2.1++g.2.2∧g.1.1.length=g.2.1.length∧OwnS eg 2 ar M k s (A++(g.2.1++(g.1.2++(C++(g.1.1++(g.2.2++B))))))∧Upd M h k) (fun g=>g.1.2.length) (([],U),[],V)
  ⟨rfl,rfl,rfl,rfl,G,Upd.refl _ _⟩ ?_
 rintro I ⟨⟨U1,U2⟩,V1,V2⟩ t k ⟨O,L,R,J,c,N⟩ T;simp only at O L R J c;subst O L R;simp only[ad]at e d;refine aB (fun w=>?_) fun D=>?_
 ·simp only[ad]at w
  match U2,V2 with
  | [],_=>simp only[bw]at w;omega
  |_::_,[]=>simp only[bw,az]at e;omega
  |u::U2,v::V2=>
   simp only[az]at e d;simp only[ad,az];have z:IntKind.wrap .i64 (((A.length+(U1.length+(U2.length+1))+C.length:Nat):Int)+(U1.length:Int))=((A.length+(U1.length+(U2.length+1))+C.length+U1.length:Nat):Int):=by rw[ji (by omega)];omega
   have y:IntKind.wrap .i64 ((A.length:Int)+(U1.length:Int))=((A.length+U1.length:Nat):Int):=by rw[ji (by omega)];omega
   rw[z,y];have f1:A++(V1++((u::U2)++(C++(U1++((v::V2)++B)))))=(A++V1)++u::(U2++(C++(U1++(v::V2++B)))):=by simp
   have f2:(A++V1)++u::(U2++(C++(U1++(v::V2++B))))=((A++V1)++u::(U2++(C++U1)))++v::(V2++B):=by simp
   have X:(A++V1)++v::(U2++(C++(U1++(v::V2++B))))=((A++V1)++v::(U2++(C++U1)))++v::(V2++B):=by simp
   have Y:((A++V1)++v::(U2++(C++U1)))++u::(V2++B)=A++((V1++ [v])++(U2++(C++((U1++ [u])++(V2++B))))):=by simp
   rw[f1]at c;obtain⟨a,f,p⟩:=lC c (i:=A.length+U1.length) (by rw[ad];omega);have j:=c;rw[f2]at j;obtain⟨a',q,m⟩:=lC j (i:=A.length+(U1.length+(U2.length+1))+C.length+U1.length) (by simp only[ad,az];omega);rw[f]at q;cases q;refine⟨⟨by omega,by omega⟩,a,f,v.1,m 0 _ rfl,v.2,m 1 _ rfl,⟨by omega,by omega⟩,a,f,u.1,p 0 _ rfl,u.2,p 1 _ rfl,⟨by omega,by omega⟩,a,f,?_⟩
   refine tT c v f (by rw[ad];omega) fun P Q W=>⟨⟨by omega,by omega⟩,a,f,?_⟩
   rw[X]at Q;refine tT Q u f (by first|omega|(simp;done)|(simp;omega)) fun h3 H Z=>?_
   rw[Y]at H;rw[rB (n:=U1.length+(U2.length+1)) (by omega) (by omega)];exact T ((U1++ [u],U2),V1++ [v],V2) _ _ ⟨by simp,by simp,by simp,by simp[J],H,(N.trans W fun b o=>.inl o).trans Z fun b o=>.inl o⟩ (by simp)
 ·simp only[ad]at D
  have F:U2= []:=aF.1 (by omega);have P:V2= []:=aF.1 (by rw[F,bw]at e;omega);subst F P;simp only[bh,dM]at c S;exact S k c N
theorem LS{M:Nat→Prop}{h:ae}{s:SliceV}{A U V B:List (Pr)}(S:OwnS eg 2 ar M h s (A++(U++(V++B))))(N:s.len≤1000000000)(W:0<U.length)(X:0<V.length){a m b:Nat}(Y:a=A.length)(hm:m=A.length+U.length)(p:b=A.length+U.length+V.length){D:Value}{K:Unit→ae→Prop}
  (hk:∀q,OwnS eg 2 ar M q s (A++(V++(U++B)))→Upd M h q→K () q):HC PG gm [.slice s.a s.len s.cap,.int .i64 a,.int .i64 m,.int .i64 b,D] [] K h:=by
 subst Y hm p;refine oY s A.length (A.length+U.length:Nat) (A.length+U.length+V.length:Nat) D ?_;unfold jD;have y:=S.len;simp only[ad]at y;have F:IntKind.wrap .i64 (((A.length+U.length:Nat):Int)-(A.length:Int))=(U.length:Int):=by rw[ji (by omega)];omega
 have E:IntKind.wrap .i64 (((A.length+U.length+V.length:Nat):Int)-((A.length+U.length:Nat):Int))=(V.length:Int):=by rw[ji (by omega)];omega
 rw[F,E];refine LoopP.ghost (fun(g:(List (Pr)×List (Pr))×List (Pr)×List (Pr)) (t:Int×Int) q=>t.1=(g.1.2.length:Int)∧t.2=(g.2.1.length:Int)∧0<g.1.2.length∧0<g.2.1.length∧A.length+U.length=g.1.1.length+g.1.2.length∧g.1.1++(g.2.1++(g.1.2++g.2.2))=A++(V++(U++B))∧OwnS eg 2 ar M q s (g.1.1++(g.1.2++(g.2.1++g.2.2)))∧Upd M h q) (fun g=>g.1.2.length+g.2.1.length) ((A,U),V,B)
  ⟨rfl,rfl,W,X,rfl,rfl,S,Upd.refl _ _⟩ ?_
 rintro I ⟨⟨A',U'⟩,V',f⟩ ⟨ti,tj⟩ q ⟨F,E,J,H,k,e,c,O⟩ R;simp only at F E J H k e c;subst F E;have d:=c.len;simp only[ad]at d;have L:((A.length+U.length:Nat):Int)=((A'.length+U'.length:Nat):Int):=by omega
 rw[L];have T:IntKind.wrap .i64 (((A'.length+U'.length:Nat):Int)-(U'.length:Int))=(A'.length:Int):=by rw[ji (by omega)];omega
 simp only;rw[T];refine CondP.intro (fun i=>?_) fun z=>?_
 ·have i:(U'.length:Int)≠(V'.length:Int):=by simpa using i
  refine aB (fun v=>?_) fun hle=>?_
  ·
   have v:V'.length<U'.length:=by omega
   obtain⟨U1,U2,rfl,j⟩:∃U1 U2,U'=U1++U2∧U1.length=V'.length:=⟨U'.take V'.length,U'.drop V'.length,(aG ..).symm,by rw[aD];omega⟩
   simp only[ad]at v d k i T;have C:A'++((U1++U2)++(V'++f))=A'++(U1++(U2++(V'++f))):=by simp
   have Z:A'++(V'++(U2++(U1++f)))=(A'++V')++(U2++(U1++f)):=by simp
   rw[C]at c;refine tS c N j rfl (b:=A'.length+(U1++U2).length) (by simp only[ad];omega) (n:=V'.length) j.symm fun P o w=>?_
   rw[Z]at o;have u:IntKind.wrap .i64 (((U1++U2).length:Int)-(V'.length:Int))=(U2.length:Int):=by rw[ad,ji (by omega)];omega
   rw[u];refine R ((A'++V',U2),U1,f) _ _ ⟨rfl,by simp only;omega,by simp only;omega,by simp only;omega,by simp only[ad];omega,?_,o,O.trans w fun b p=>.inl p⟩ (by simp only[ad];omega)
   rw[←e];simp
  ·have Q:U'.length<V'.length:=by omega
   obtain⟨V1,V2,rfl,j⟩:∃V1 V2,V'=V1++V2∧V2.length=U'.length:=⟨V'.take (V'.length-U'.length),V'.drop (V'.length-U'.length),(aG ..).symm,by rw[aO];omega⟩
   simp only[ad]at Q d i;have u:IntKind.wrap .i64 ((IntKind.wrap .i64 (((A'.length+U'.length:Nat):Int)+((V1++V2).length:Int)))-(U'.length:Int))=((A'.length+U'.length+V1.length:Nat):Int):=by
    rw[ad,ji (x:=((A'.length+U'.length:Nat):Int)+((V1.length+V2.length:Nat):Int)) (by omega),ji (by omega)];omega
   rw[u];have C:A'++(U'++((V1++V2)++f))=A'++(U'++(V1++(V2++f))):=by simp
   rw[C]at c;refine tS c N j.symm rfl rfl rfl fun P o w=>?_
   have G:IntKind.wrap .i64 (((V1++V2).length:Int)-(U'.length:Int))=(V1.length:Int):=by rw[ad,ji (by omega)];omega
   rw[G];refine R ((A',V2),V1,U'++f) _ _ ⟨by simp only;omega,rfl,by simp only;omega,by simp only;omega,by simp only;omega,?_,o,O.trans w fun b p=>.inl p⟩ (by simp only[ad];omega)
   rw[←e];simp
 ·have z:(U'.length:Int)=(V'.length:Int):=by simpa using z
  have C:A'++(U'++(V'++f))=A'++(U'++([]++(V'++f))):=by simp
  rw[C]at c;refine tS c N (by omega) rfl (b:=A'.length+U'.length) (by simp) rfl fun P o w=>?_
  rw[dM,e]at o;exact hk P o (O.trans w fun b p=>.inl p)
theorem Cr{lt:Pr→Pr→Bool}(w:WO lt){M:Nat→Prop}{Iv:ae→Prop}{v:Value}(hc:Cmp lt eg M Iv v){h:ae}{s:SliceV}{A S B:List (Pr)}(ho:OwnS eg 2 ar M h s (A++(S++B)))(hi:Iv h)(hn:s.len≤1000000000){a b:Nat}(c:a=A.length)(F:b=A.length+S.length){K:Unit→ae→Prop}
  (hk:∀u R,OwnS eg 2 ar M u s (A++(R++B))→St lt S R→Upd M h u→K () u):HC PG dJ [.slice s.a s.len s.cap,.int .i64 a,.int .i64 b,v] [] K h:=by
 subst c F;refine lQ s A.length (A.length+S.length:Nat) v ?_;unfold g6 bR cQ aY qg pt im wd;have k:=ho.len;simp only[ad]at k;have ea:IntKind.wrap .i64 ((A.length:Int)+1)=((A.length+1:Nat):Int):=by rw[ji (by omega)];omega
 rw[ea];refine LoopP.ghost (fun(g:List (Pr)×List (Pr)×List (Pr)) (t:Int) u=>t=((A.length+max 1 g.1.length:Nat):Int)∧S=g.1++g.2.2∧(g.1= []→g.2.2= [])∧St lt g.1 g.2.1∧OwnS eg 2 ar M u s (A++(g.2.1++(g.2.2++B)))∧Upd M h u) (fun g=>g.2.2.length) (S.take 1,S.take 1,S.drop 1)
  ⟨?_,(aG ..).symm,fun e=>?_,⟨Eqf.rfl _,?_⟩,by rw[←au (S.take 1),aG];exact ho,Upd.refl _ _⟩ ?_
 ·simp only[aD];omega
 ·have:=congrArg List.length e
  simp only[aD,bw]at this;exact aF.1 (by simp only[aO];omega)
 ·match S with
  | []=>exact Srt.nil
  |x::S=>exact Srt.one x
 rintro I ⟨S1,Z,T⟩ t u ⟨Q,N,m,d,p,hu⟩ hI;simp only at Q N m d p;subst Q N;simp only[ad]at k;have hR1:=d.eqf.len;refine aB (fun C=>?_) fun hge=>?_
 ·simp only[ad]at C
  have hS1:S1≠[]:=fun e=>by
   have:=m e;subst e;subst this;simp only[bw]at C;omega
  have hS1l:0<S1.length:=List.length_pos_iff.2 hS1;match T with
  | []=>simp only[bw]at C;omega
  |x::T=>
   have J:A.length+max 1 S1.length=A.length+S1.length:=by omega
   rw[J];refine LoopP.ghost (fun(g:List (Pr)×List (Pr)) (t:Int) h2=>t=((A.length+g.1.length:Nat):Int)∧Z=g.1++g.2∧(∀y∈g.2,lt x y=true)∧OwnS eg 2 ar M h2 s (A++(g.1++(x::(g.2++(T++B)))))∧Upd M h h2) (fun g=>g.1.length) (Z,[])
    ⟨by simp only;omega,by simp,fun y n=>(by cases n),by simpa using p,hu⟩ ?_
   rintro I2 ⟨L,G⟩ t2 h2 ⟨Q,N,hG,j,D⟩ hI2;simp only at Q N hG j;subst Q N;simp only[ad]at hR1;simp only[az]at k;refine Join.intro (fun t Y=>Upd M h Y∧OwnS eg 2 ar M Y s (A++(L++(x::(G++(T++B)))))∧(t=true→∃L' y,L=L'++ [y]∧lt x y=true)∧(t=false→∀y∈L,lt x y=false)) (fun Rj P=>?_) ?_
   ·refine aB (fun X=>?_) fun hle=>?_
    ·rcases Ig L with rfl|⟨L',y,rfl⟩
     ·simp only[bw]at X;omega
     have o:(L'++ [y]).length=L'.length+1:=by simp
     have H:IntKind.wrap .i64 (((A.length+(L'++ [y]).length:Nat):Int)-1)=((A.length+L'.length:Nat):Int):=by rw[o,ji (by omega)];omega
     rw[H];have U:A++((L'++ [y])++(x::(G++(T++B))))=(A++L')++y::(x::(G++(T++B))):=by simp
     have f2:A++((L'++ [y])++(x::(G++(T++B))))=(A++(L'++ [y]))++x::(G++(T++B)):=by simp
     have o3:=j;have E:=j;rw[U]at o3;rw[f2]at E;obtain⟨a,c,n⟩:=lC o3 (i:=A.length+L'.length) (by first|omega|(simp;done)|(simp;omega))
     obtain⟨a',f,hx⟩:=lC E (i:=A.length+(L'++ [y]).length) (by first|omega|(simp;done)|(simp;omega))
     rw[c]at f;cases f;refine⟨⟨by omega,by omega⟩,a,c,x.1,hx 0 _ rfl,x.2,hx 1 _ rfl,⟨by omega,by omega⟩,a,c,y.1,n 0 _ rfl,y.2,n 1 _ rfl,?_⟩
     refine hc.call x y (hc.step D hi) fun h5 e V he=>?_
     rw[he];have ho5:=j.upd V fun _ _ h=>h
     refine P _ _ ⟨D.tr V.wide,ho5,fun h=>⟨L',y,rfl,h⟩,fun h z hz=>?_⟩
     have hs:=d.srt.left;rcases List.mem_append.1 hz with hz|hz
     ·exact w.ntr x y z h (hs.cross z hz y (aq.2 rfl))
     ·rw[aq.1 hz];exact h
    ·have hL:L= []:=aF.1 (by omega)
     exact P _ _ ⟨D,j,fun h=>(by cases h),fun _ y n=>(by rw[hL]at n;cases n)⟩
   ·rintro t3 Y ⟨O,q,ht,hf⟩
    cases t3 with
    |true=>
     obtain⟨L',y,rfl,W⟩:=ht rfl;have o:(L'++ [y]).length=L'.length+1:=by simp
     refine ax.2 ?_;have H:IntKind.wrap .i64 (((A.length+(L'++ [y]).length:Nat):Int)-1)=((A.length+L'.length:Nat):Int):=by rw[o,ji (by omega)];omega
     rw[H];have U:A++((L'++ [y])++(x::(G++(T++B))))=(A++L')++y::(x::(G++(T++B))):=by simp
     have f2:(A++L')++y::(x::(G++(T++B)))=(A++(L'++ [y]))++x::(G++(T++B)):=by simp
     have f3:(A++(L'++ [y]))++y::(G++(T++B))=(A++L')++y::(y::(G++(T++B))):=by simp
     have f4:(A++L')++x::(y::(G++(T++B)))=A++(L'++(x::((y::G)++(T++B)))):=by simp
     rw[U]at q;have E:=q;rw[f2]at E;obtain⟨a,c,n⟩:=lC q (i:=A.length+L'.length) (by first|omega|(simp;done)|(simp;omega))
     obtain⟨a',f,hx⟩:=lC E (i:=A.length+(L'++ [y]).length) (by first|omega|(simp;done)|(simp;omega))
     rw[c]at f;cases f;refine⟨⟨by omega,by omega⟩,a,c,y.1,n 0 _ rfl,y.2,n 1 _ rfl,⟨by omega,by omega⟩,a,c,x.1,hx 0 _ rfl,x.2,hx 1 _ rfl,⟨by omega,by omega⟩,a,c,?_⟩
     refine tT E y c (by first|omega|(simp;done)|(simp;omega)) fun h5 o5 V=>⟨⟨by omega,by omega⟩,a,c,?_⟩
     rw[f3]at o5;refine tT o5 x c (by first|omega|(simp;done)|(simp;omega)) fun h6 o6 k6=>?_
     rw[f4]at o6;refine hI2 (L',y::G) _ _ ⟨rfl,by simp,fun z hz=>?_,o6,(O.trans V fun b F=>.inl F).trans k6 fun b F=>.inl F⟩ (by simp only[o];omega)
     rcases aw.1 hz with rfl|hz
     ·exact W
     ·exact hG z hz
    |false=>
     refine al.2 ?_;have H:IntKind.wrap .i64 (((A.length+S1.length:Nat):Int)+1)=((A.length+max 1 (S1.length+1):Nat):Int):=by rw[ji (by omega)];omega
     rw[H];refine hI (S1++ [x],L++x::G,T) _ _ ⟨by simp,by simp,fun e=>(by simp at e),QC w d (hf rfl) hG,?_,O⟩ (by simp)
     have U:A++((L++x::G)++(T++B))=A++(L++(x::(G++(T++B)))):=by simp
     rw[U];exact q
 ·simp only[ad]at hge
  have hT:T= []:=by
   rcases eJ S1.length with h0|h0
   ·exact m (aF.1 h0)
   ·exact aF.1 (by omega)
  subst hT;rw[dM]at p;rw[bh]at hk;exact hk u Z p d hu
theorem zM{lt:Pr→Pr→Bool}(w:WO lt){M:Nat→Prop}{Iv:ae→Prop}{cmp:Value}(hc:Cmp lt eg M Iv cmp){s:SliceV}(hn:s.len≤1000000000):∀(n:Nat) {h:ae} {A U V B:List (Pr)},U.length+V.length≤n→OwnS eg 2 ar M h s (A++(U++(V++B)))→Iv h→0<U.length→0<V.length→Srt lt U→Srt lt V→∀{a m b:Nat},a=A.length→m=A.length+U.length→b=A.length+U.length+V.length→∀{K:Unit→ae→Prop},
  (∀Y R,OwnS eg 2 ar M Y s (A++(R++B))→St lt (U++V) R→Upd M h Y→K () Y)→HC PG cN [.slice s.a s.len s.cap,.int .i64 a,.int .i64 m,.int .i64 b,cmp] [] K h:=by
 intro n;induction n with
 |zero=>intro h A U V B hl _ _ hU;omega
 |succ n ih=>
  intro h A U V B hl ho hi hU hV sU sV a m b ha hm O K hk;refine nZ s a m b cmp ?_;unfold jc bR cQ aY qg pt im wd;have z:=ho.len;simp only[ad]at z;have e1:IntKind.wrap .i64 ((m:Int)-(a:Int))=(U.length:Int):=by rw[ji (by omega)];omega
  have e2:IntKind.wrap .i64 ((b:Int)-(m:Int))=(V.length:Int):=by rw[ji (by omega)];omega
  rw[e1,e2];refine CondP.intro (fun G=>?_) fun hmore=>?_
  ·have G:U.length=1:=by have:=eq_of_beq G;omega
   match U,G with
   | [u],_=>
   simp only[aE]at z hm O;refine LoopP.ghost (fun(g:Nat×Nat) (t:Int×Int) Y=>t.1=(g.1:Int)∧t.2=(g.2:Int)∧m≤g.1∧g.1≤g.2∧g.2≤b∧(∀q x,V[q]? =some x→m+q<g.1→lt x u=true)∧(∀q x,V[q]? =some x→g.2≤m+q→lt x u=false)∧OwnS eg 2 ar M Y s (A++([u]++(V++B)))∧Upd M h Y) (fun g=>g.2-g.1) (m,b)
    ⟨rfl,rfl,aj _,by simp only;omega,aj _,fun q x D h=>(by simp only at h;omega),fun q x D h=>(by have:=(bm.1 D).1;simp only at h;omega),ho,Upd.refl _ _⟩ ?_
   rintro I ⟨i,j⟩ ⟨ti,tj⟩ Y ⟨e1,e2,hmi,F,hjb,H,L,J,hu⟩ hI;simp only at e1 e2 hmi F hjb H L;subst e1 e2;refine aB (fun S=>?_) fun hge=>?_
   ·have S:i<j:=by have:(i:Int)<(j:Int):=S;omega
    refine⟨by decide,?_⟩;simp only[Bd];rw[Dn (by omega)];have hk1:(i+j)/2-m<V.length:=by omega
    have hk0:(i+j)/2=A.length+1+((i+j)/2-m):=by omega
    obtain⟨X,f,hx⟩:=xk J (i:=(i+j)/2) (x:=V[(i+j)/2-m]) (Rp (U:= [u]) (k:=(i+j)/2-m) (by simp only[aE];omega) (af hk1));obtain⟨a2,C,hy⟩:=lC (P:=A) (x:=u) (Q:=V++B) J ha;rw[f]at C;cases C;have hVk:V[(i+j)/2-m]? =some V[(i+j)/2-m]:=af hk1;generalize V[(i+j)/2-m]=x at hx hVk;refine⟨⟨by omega,by omega⟩,X,f,x.1,hx 0 _ rfl,x.2,hx 1 _ rfl,⟨by omega,by omega⟩,X,f,u.1,hy 0 _ rfl,u.2,hy 1 _ rfl,?_⟩
    refine hc.call x u (hc.step hu hi) fun W e k5 he=>?_
    rw[he];have ho5:=J.upd k5 fun _ _ h=>h
    have hu5:=hu.tr k5.wide;cases hxu:lt x u with
    |true=>
     refine ax.2 ?_;have ew:IntKind.wrap .i64 ((((i+j)/2:Nat):Int)+1)=(((i+j)/2+1:Nat):Int):=by rw[ji (by omega)];omega
     rw[ew];refine hI ((i+j)/2+1,j) _ _ ⟨rfl,rfl,by simp only;omega,by simp only;omega,hjb,fun q y D hqi=>?_,L,ho5,hu5⟩ (by simp only;omega)
     have hle:=qB w sV (i:=q) (j:=(i+j)/2-m) (by simp only at hqi;omega) D hVk;cases hyu:lt y u with
     |true=>rfl
     |false=>rw[w.ntr _ _ _ hle hyu]at hxu;cases hxu
    |false=>
     refine al.2 ?_;refine hI (i,(i+j)/2) _ _ ⟨rfl,rfl,hmi,by simp only;omega,by simp only;omega,H,fun q y D hqi=>?_,ho5,hu5⟩ (by simp only;omega)
     have hle:=qB w sV (i:=(i+j)/2-m) (j:=q) (by simp only at hqi;omega) hVk D;exact w.ntr _ _ _ hle hxu
   ·have F:i=j:=by have:¬(i:Int)<(j:Int):=hge;omega
    subst F;obtain⟨V1,V2,rfl,hV1⟩:∃V1 V2,V=V1++V2∧V1.length=i-m:=⟨V.take (i-m),V.drop (i-m),(aG ..).symm,by rw[aD];omega⟩
    simp only[ad]at z O;have lo1:∀x∈V1,lt x u=true:=fun x hx=>by
     obtain⟨q,D,e⟩:=bP hx;exact H q x (by rw[bQ D,af D,e]) (by omega)
    have hi1:∀x∈V2,lt x u=false:=fun x hx=>by
     obtain⟨q,D,e⟩:=bP hx;exact L (V1.length+q) x (by rw[aQ (by omega),fh,af D,e]) (by omega)
    have hst:=HD w sV lo1 hi1;have f0:A++([u]++((V1++V2)++B))=A++([]++(u::(V1++(V2++B)))):=by simp
    rw[f0]at J;have ew:IntKind.wrap .i64 ((i:Int)-1)=((A.length+V1.length:Nat):Int):=by rw[ji (by omega)];omega
    rw[ew];refine LoopP.ghost (fun(g:List (Pr)×List (Pr)) (t:Int) N=>t=((A.length+g.1.length:Nat):Int)∧V1=g.1++g.2∧OwnS eg 2 ar M N s (A++(g.1++(u::(g.2++(V2++B)))))∧Upd M h N) (fun g=>g.2.length) ([],V1)
     ⟨by simp[ha],rfl,J,hu⟩ ?_
    rintro I2 ⟨G1,E⟩ t2 N ⟨e1,e2,o,T⟩ hI2;simp only at e1 e2 o;subst e1 e2;simp only[ad]at z O ew⊢;refine aB (fun S=>?_) fun hge=>?_
    ·match E with
     | []=>simp only[bw]at S;omega
     |g::E=>
      simp only[az]at z;have ew1:IntKind.wrap .i64 (((A.length+G1.length:Nat):Int)+1)=((A.length+G1.length+1:Nat):Int):=by rw[ji (by omega)];omega
      rw[ew1];have f1:A++(G1++(u::((g::E)++(V2++B))))=(A++G1)++u::(g::(E++(V2++B))):=by simp
      have f2:(A++G1)++u::(g::(E++(V2++B)))=(A++(G1++ [u]))++g::(E++(V2++B)):=by simp
      have f3:(A++G1)++g::(g::(E++(V2++B)))=(A++(G1++ [g]))++g::(E++(V2++B)):=by simp
      have f4:(A++(G1++ [g]))++u::(E++(V2++B))=A++((G1++ [g])++(u::(E++(V2++B)))):=by simp
      rw[f1]at o;have o3:=o;rw[f2]at o3;obtain⟨X,f,hy⟩:=lC o3 (i:=A.length+G1.length+1) (by first|omega|(simp;done)|(simp;omega))
      obtain⟨a2,C,hx⟩:=lC o (i:=A.length+G1.length) (by first|omega|(simp;done)|(simp;omega))
      rw[f]at C;cases C;refine⟨⟨by omega,by omega⟩,X,f,g.1,hy 0 _ rfl,g.2,hy 1 _ rfl,⟨by omega,by omega⟩,X,f,u.1,hx 0 _ rfl,u.2,hx 1 _ rfl,⟨by omega,by omega⟩,X,f,?_⟩
      refine tT o g f (by first|omega|(simp;done)|(simp;omega)) fun W o5 k5=>⟨⟨by omega,by omega⟩,X,f,?_⟩
      rw[f3]at o5;refine tT o5 u f (by first|omega|(simp;done)|(simp;omega)) fun h6 o6 k6=>?_
      rw[f4]at o6;exact hI2 (G1++ [g],E) _ _ ⟨by simp;omega,by simp,o6,(T.trans k5 fun b O=>.inl O).trans k6 fun b O=>.inl O⟩ (by simp)
    ·have hG:E= []:=aF.1 (by omega)
     subst hG;simp only[bh,dM]at o hst hk;refine hk N (G1++u::V2) ?_ hst T;have f1:A++((G1++u::V2)++B)=A++(G1++(u::(V2++B))):=by simp
     rw[f1];exact o
  refine CondP.intro (fun G=>?_) fun hmore2=>?_
  ·have G:V.length=1:=by have:=eq_of_beq G;omega
   match V,G with
   | [v],_=>
   simp only[aE]at z O;refine LoopP.ghost (fun(g:Nat×Nat) (t:Int×Int) Y=>t.1=(g.1:Int)∧t.2=(g.2:Int)∧a≤g.1∧g.1≤g.2∧g.2≤m∧(∀q x,U[q]? =some x→a+q<g.1→lt v x=false)∧(∀q x,U[q]? =some x→g.2≤a+q→lt v x=true)∧OwnS eg 2 ar M Y s (A++(U++([v]++B)))∧Upd M h Y) (fun g=>g.2-g.1) (a,m)
    ⟨rfl,rfl,aj _,by simp only;omega,aj _,fun q x D h=>(by simp only at h;omega),fun q x D h=>(by have:=(bm.1 D).1;simp only at h;omega),ho,Upd.refl _ _⟩ ?_
   rintro I ⟨i,j⟩ ⟨ti,tj⟩ Y ⟨e1,e2,hmi,F,hjb,H,L,J,hu⟩ hI;simp only at e1 e2 hmi F hjb H L;subst e1 e2;refine aB (fun S=>?_) fun hge=>?_
   ·have S:i<j:=by have:(i:Int)<(j:Int):=S;omega
    refine⟨by decide,?_⟩;simp only[Bd];rw[Dn (by omega)];have hk1:(i+j)/2-a<U.length:=by omega
    obtain⟨X,f,hx⟩:=xk J (i:=(i+j)/2) (x:=U[(i+j)/2-a]) (Oi (k:=(i+j)/2-a) (by omega) (af hk1));have f1:A++(U++([v]++B))=(A++U)++v::B:=by simp
    have o3:=J;rw[f1]at o3;obtain⟨a2,C,hy⟩:=lC o3 (i:=m) (by first|omega|(simp;done)|(simp;omega))
    rw[f]at C;cases C;have hVk:U[(i+j)/2-a]? =some U[(i+j)/2-a]:=af hk1;generalize U[(i+j)/2-a]=x at hx hVk;refine⟨⟨by omega,by omega⟩,X,f,v.1,hy 0 _ rfl,v.2,hy 1 _ rfl,⟨by omega,by omega⟩,X,f,x.1,hx 0 _ rfl,x.2,hx 1 _ rfl,?_⟩
    refine hc.call v x (hc.step hu hi) fun W e k5 he=>?_
    rw[he];have ho5:=J.upd k5 fun _ _ h=>h
    have hu5:=hu.tr k5.wide;cases hxu:lt v x with
    |false=>
     refine ax.2 ?_;have ew:IntKind.wrap .i64 ((((i+j)/2:Nat):Int)+1)=(((i+j)/2+1:Nat):Int):=by rw[ji (by omega)];omega
     rw[ew];refine hI ((i+j)/2+1,j) _ _ ⟨rfl,rfl,by simp only;omega,by simp only;omega,hjb,fun q y D hqi=>?_,L,ho5,hu5⟩ (by simp only;omega)
     exact w.ntr _ _ _ hxu (qB w sU (i:=q) (j:=(i+j)/2-a) (by simp only at hqi;omega) D hVk)
    |true=>
     refine al.2 ?_;refine hI (i,(i+j)/2) _ _ ⟨rfl,rfl,hmi,by simp only;omega,by simp only;omega,H,fun q y D hqi=>?_,ho5,hu5⟩ (by simp only;omega)
     have hle:=qB w sU (i:=(i+j)/2-a) (j:=q) (by simp only at hqi;omega) hVk D;cases hvy:lt v y with
     |true=>rfl
     |false=>rw[w.ntr _ _ _ hvy hle]at hxu;cases hxu
   ·have F:i=j:=by have:¬(i:Int)<(j:Int):=hge;omega
    subst F;obtain⟨U1,U2,rfl,hU1⟩:∃U1 U2,U=U1++U2∧U1.length=i-a:=⟨U.take (i-a),U.drop (i-a),(aG ..).symm,by rw[aD];omega⟩
    simp only[ad]at z O hm;have lo1:∀x∈U1,lt v x=false:=fun x hx=>by
     obtain⟨q,D,e⟩:=bP hx;exact H q x (by rw[bQ D,af D,e]) (by omega)
    have hi1:∀x∈U2,lt v x=true:=fun x hx=>by
     obtain⟨q,D,e⟩:=bP hx;exact L (U1.length+q) x (by rw[aQ (by omega),fh,af D,e]) (by omega)
    have hst:=Jt w sU lo1 hi1;have f0:A++((U1++U2)++([v]++B))=A++(U1++(U2++(v::([]++B)))):=by simp
    rw[f0]at J;refine LoopP.ghost (fun(g:List (Pr)×List (Pr)) (t:Int) N=>t=((A.length+U1.length+g.1.length:Nat):Int)∧U2=g.1++g.2∧OwnS eg 2 ar M N s (A++(U1++(g.1++(v::(g.2++B)))))∧Upd M h N) (fun g=>g.1.length) (U2,[])
     ⟨by simp only;omega,by simp,J,hu⟩ ?_
    rintro I2 ⟨G1,E⟩ t2 N ⟨e1,e2,o,T⟩ hI2;simp only at e1 e2 o;subst e1 e2;simp only[ad]at z O hm⊢;refine aB (fun hgt=>?_) fun hle=>?_
    ·rcases Ig G1 with rfl|⟨G1',g,rfl⟩
     ·simp only[bw]at hgt;omega
     simp only[ad,aE]at z O hm hgt⊢;have ew1:IntKind.wrap .i64 (((A.length+U1.length+(G1'.length+1):Nat):Int)-1)=((A.length+U1.length+G1'.length:Nat):Int):=by rw[ji (by omega)];omega
     rw[ew1];have f1:A++(U1++((G1'++ [g])++(v::(E++B))))=(A++(U1++(G1'++ [g])))++v::(E++B):=by simp
     have f2:(A++(U1++(G1'++ [g])))++v::(E++B)=(A++(U1++G1'))++g::(v::(E++B)):=by simp
     have f3:(A++(U1++(G1'++ [g])))++g::(E++B)=(A++(U1++G1'))++g::(g::(E++B)):=by simp
     have f4:(A++(U1++G1'))++v::(g::(E++B))=A++(U1++(G1'++(v::((g::E)++B)))):=by simp
     rw[f1]at o;have o3:=o;rw[f2]at o3;obtain⟨X,f,hy⟩:=lC o3 (i:=A.length+U1.length+G1'.length) (by first|omega|(simp;done)|(simp;omega))
     obtain⟨a2,C,hx⟩:=lC o (i:=A.length+U1.length+(G1'.length+1)) (by first|omega|(simp;done)|(simp;omega))
     rw[f]at C;cases C;refine⟨⟨by omega,by omega⟩,X,f,g.1,hy 0 _ rfl,g.2,hy 1 _ rfl,⟨by omega,by omega⟩,X,f,v.1,hx 0 _ rfl,v.2,hx 1 _ rfl,⟨by omega,by omega⟩,X,f,?_⟩
     refine tT o g f (by first|omega|(simp;done)|(simp;omega)) fun W o5 k5=>⟨⟨by omega,by omega⟩,X,f,?_⟩
     rw[f3]at o5;refine tT o5 v f (by first|omega|(simp;done)|(simp;omega)) fun h6 o6 k6=>?_
     rw[f4]at o6;exact hI2 (G1',g::E) _ _ ⟨rfl,by simp,o6,(T.trans k5 fun b O=>.inl O).trans k6 fun b O=>.inl O⟩ (by simp)
    ·have hG:G1= []:=aF.1 (by omega)
     subst hG;simp only[dM]at o hst hk;refine hk N (U1++v::E) ?_ hst T;have f1:A++((U1++v::E)++B)=A++(U1++(v::(E++B))):=by simp
     rw[f1];exact o
  have hU2:2≤U.length:=by
   have:(U.length:Int)≠1:=by simpa using hmore
   omega
  have hV2:2≤V.length:=by
   have:(V.length:Int)≠1:=by simpa using hmore2
   omega
  refine⟨by decide,?_⟩;simp only[Bd];rw[Dn (i:=a) (j:=b) (by omega)];obtain⟨d,hmid⟩:∃d,(a+b)/2=d:=⟨_,rfl⟩;rw[hmid];have em:IntKind.wrap .i64 ((d:Int)+(m:Int))=((d+m:Nat):Int):=by rw[ji (by omega)];omega
  rw[em];have ep:IntKind.wrap .i64 (((d+m:Nat):Int)-1)=((d+m-1:Nat):Int):=by rw[ji (by omega)];omega
  rw[ep];refine Join.intro (fun t Y=>Y=h∧∃s0 r0:Nat,t=((s0:Int),(r0:Int))∧a≤s0∧s0≤r0∧r0≤m∧r0≤d∧d+m≤b+s0∧(r0=d∨r0=m)∧(s0=a∨s0+b=d+m)) (fun Rj hRj=>?_) ?_
  ·refine aB (fun hgt=>?_) fun hle=>?_
   ·have es:IntKind.wrap .i64 (((d+m:Nat):Int)-(b:Int))=((d+m-b:Nat):Int):=by rw[ji (by omega)];omega
    rw[es];exact hRj _ _ ⟨rfl,_,_,rfl,by omega,by omega,by omega,by omega,by omega,by omega,by omega⟩
   ·exact hRj _ _ ⟨rfl,_,_,rfl,by omega,by omega,by omega,by omega,by omega,by omega,by omega⟩
  rintro t Y ⟨rfl,s0,r0,rfl,hs0,hsr,hrm,hrd,hsb,hr0,hs00⟩;refine LoopP.ghost (fun(g:Nat×Nat) (t:Int×Int) N=>t.1=(g.1:Int)∧t.2=(g.2:Int)∧s0≤g.1∧g.1≤g.2∧g.2≤r0∧(∀c x y,s0≤c→c<g.1→U[c-a]? =some x→V[d-1-c]? =some y→lt y x=false)∧(∀c x y,g.2≤c→c<r0→U[c-a]? =some x→V[d-1-c]? =some y→lt y x=true)∧OwnS eg 2 ar M N s (A++(U++(V++B)))∧Upd M Y N) (fun g=>g.2-g.1) (s0,r0)
   ⟨rfl,rfl,aj _,hsr,aj _,fun c x y h1 N=>(by simp only at N;omega),fun c x y h1 N=>(by simp only at h1;omega),ho,Upd.refl _ _⟩ ?_
  rintro I ⟨i,j⟩ ⟨ti,tj⟩ N ⟨e1,e2,hsi,F,hjr,H,L,o,T⟩ hI;simp only at e1 e2 hsi F hjr H L;subst e1 e2;refine aB (fun S=>?_) fun hge=>?_
  ·have S:i<j:=by have:(i:Int)<(j:Int):=S;omega
   refine⟨by decide,?_⟩;rw[Dn (i:=i) (j:=j) (by omega)];obtain⟨c,hcc⟩:∃c,(i+j)/2=c:=⟨_,rfl⟩;rw[hcc];have hci:i≤c:=by omega
   have hcj:c<j:=by omega
   have eq:IntKind.wrap .i64 (((d+m-1:Nat):Int)-(c:Int))=((d+m-1-c:Nat):Int):=by rw[ji (by omega)];omega
   rw[eq];have hk1:c-a<U.length:=by omega
   have hk2:d-1-c<V.length:=by omega
   obtain⟨X,f,hx⟩:=xk o (i:=c) (x:=U[c-a]) (Oi (k:=c-a) (by omega) (af hk1));obtain⟨a2,C,hy⟩:=xk o (i:=d+m-1-c) (x:=V[d-1-c]) (Rp (k:=d-1-c) (by omega) (af hk2));rw[f]at C;cases C;have hUc:U[c-a]? =some U[c-a]:=af hk1;have hVc:V[d-1-c]? =some V[d-1-c]:=af hk2;generalize U[c-a]=x at hx hUc
   generalize V[d-1-c]=y at hy hVc;refine⟨⟨by omega,by omega⟩,X,f,y.1,hy 0 _ rfl,y.2,hy 1 _ rfl,⟨by omega,by omega⟩,X,f,x.1,hx 0 _ rfl,x.2,hx 1 _ rfl,?_⟩
   refine hc.call y x (hc.step T hi) fun W e k5 he=>?_
   rw[he];have ho5:=o.upd k5 fun _ _ h=>h
   have hu5:=T.tr k5.wide;cases hyx:lt y x with
   |false=>
    refine ax.2 ?_;have ew:IntKind.wrap .i64 ((c:Int)+1)=((c+1:Nat):Int):=by rw[ji (by omega)];omega
    rw[ew];refine hI (c+1,j) _ _ ⟨rfl,rfl,by simp only;omega,by simp only;omega,hjr,fun c' x' y' h1 N hx' hy'=>?_,L,ho5,hu5⟩ (by simp only;omega)
    simp only at N;have q1:=qB w sU (i:=c'-a) (j:=c-a) (by omega) hx' hUc;have q2:=qB w sV (i:=d-1-c) (j:=d-1-c') (by omega) hVc hy';exact w.ntr _ _ _ (w.ntr _ _ _ q2 hyx) q1
   |true=>
    refine al.2 ?_;refine hI (i,c) _ _ ⟨rfl,rfl,hsi,hci,by simp only;omega,H,fun c' x' y' h1 N hx' hy'=>?_,ho5,hu5⟩ (by simp only;omega)
    simp only at h1;have q1:=qB w sU (i:=c-a) (j:=c'-a) (by omega) hUc hx';have q2:=qB w sV (i:=d-1-c') (j:=d-1-c) (by omega) hy' hVc;cases hyx':lt y' x' with
    |true=>rfl
    |false=>rw[w.ntr _ _ _ (w.ntr _ _ _ q2 hyx') q1]at hyx;cases hyx
  have F:i=j:=by have:¬(i:Int)<(j:Int):=hge;omega
  subst F;have en:IntKind.wrap .i64 (((d+m:Nat):Int)-(i:Int))=((d+m-i:Nat):Int):=by rw[ji (by omega)];omega
  simp only;rw[en];obtain⟨U1,U2,eU,hU1⟩:∃U1 U2,U=U1++U2∧U1.length=i-a:=⟨U.take (i-a),U.drop (i-a),(aG ..).symm,by rw[aD];omega⟩
  obtain⟨V1,V2,eV,hV1⟩:∃V1 V2,V=V1++V2∧V1.length=d-i:=⟨V.take (d-i),V.drop (d-i),(aG ..).symm,by rw[aD];omega⟩
  have c1:∀v∈V1,∀u∈U2,lt v u=true:=fun v hv u hu=>by
   obtain⟨q,D,e⟩:=bP hv;obtain⟨p,hp,e'⟩:=bP hu;have hlU:U.length=U1.length+U2.length:=by rw[eU,ad]
   have n1:0<U2.length:=by omega
   have n2:d-1-i<V1.length:=by omega
   have gx:U[i-a]? =some (U2[0]'n1):=by rw[eU,aQ (by omega),←hU1,fY,af (by omega)]
   have gy:V[d-1-i]? =some (V1[d-1-i]'n2):=by rw[eV,bQ (by omega),af (by omega)]
   have hQ:=L i _ _ (aj _) (by omega) gx gy;have q1:=qB w sU (i:=i-a) (j:=i-a+p) (by omega) gx (by rw[eU,aQ (by omega),←hU1,fh,af hp,e']);have q2:=qB w sV (i:=q) (j:=d-1-i) (by omega) (by rw[eV,bQ D,af D,e]) gy;cases hvu:lt v u with
   |true=>rfl
   |false=>rw[w.ntr _ _ _ (w.ntr _ _ _ q2 hvu) q1]at hQ;cases hQ
  have c2:∀u∈U1,∀v∈V2,lt v u=false:=fun u hu v hv=>by
   obtain⟨p,hp,e'⟩:=bP hu;obtain⟨q,D,e⟩:=bP hv;have hlV:V.length=V1.length+V2.length:=by rw[eV,ad]
   have n1:i-1-a<U1.length:=by omega
   have n2:0<V2.length:=by omega
   have gx:U[i-1-a]? =some (U1[i-1-a]'n1):=by rw[eU,bQ (by omega),af (by omega)]
   have gy:V[d-1-(i-1)]? =some (V2[0]'n2):=by rw[eV,aQ (by omega),show d-1-(i-1)-V1.length=0 by omega,af (by omega)]
   have hQ:=H (i-1) _ _ (by omega) (by omega) gx gy;have q1:=qB w sU (i:=p) (j:=i-1-a) (by omega) (by rw[eU,bQ hp,af hp,e']) gx;have q2:=qB w sV (i:=d-i) (j:=d-i+q) (by omega) (by rw[eV,aQ (by omega),hV1,fY,af (by omega)]) (by rw[eV,aQ (by omega),hV1,fh,af D,e])
   have gy2:V[d-i]? =some (V2[0]'n2):=by rw[eV,aQ (by omega),hV1,fY,af (by omega)]
   exact w.ntr _ _ _ (w.ntr _ _ _ q2 hQ) q1
  subst eU eV;simp only[ad]at z hU hV hl hm O hU2 hV2;have sA1:=sU.left;have sA2:=sU.right;have sB1:=sV.left;have sB2:=sV.right;refine Join.intro (fun _ h3=>OwnS eg 2 ar M h3 s (A++(U1++(V1++(U2++(V2++B)))))∧Upd M Y h3) (fun Rj hRj=>?_) ?_
  ·have f1:A++((U1++U2)++((V1++V2)++B))=(A++U1)++(U2++(V1++(V2++B))):=by simp
   have f2:(A++U1)++(V1++(U2++(V2++B)))=A++(U1++(V1++(U2++(V2++B)))):=by simp
   refine Join.intro (fun t h3=>h3=N∧(t=true↔0<U2.length∧0<V1.length)) (fun Rk Z=>?_) ?_
   ·refine aB (fun h=>Z _ _ ⟨rfl,?_⟩) fun h=>Z _ _ ⟨rfl,⟨fun h=>(by cases h),fun h=>(by omega)⟩⟩
    rw[decide_eq_true_iff];constructor
    ·intro h;constructor<;>omega
    ·rintro⟨h1,N⟩;omega
   ·rintro t h3 ⟨rfl,ht⟩
    cases t with
    |true=>
     obtain⟨p1,p2⟩:=ht.1 rfl;rw[f1]at o;refine ax.2 (LS o hn p1 p2 (by rw[ad];omega) (by rw[ad];omega) (by rw[ad];omega) fun h4 o4 k4=>hRj _ _ ⟨?_,T.trans k4 fun b O=>.inl O⟩)
     rw[f2]at o4;exact o4
    |false=>
     have hz:U2= []∨V1= []:=by
      rcases eJ U2.length with h|h
      ·exact .inl (aF.1 h)
      ·rcases eJ V1.length with h3|h3
       ·exact .inr (aF.1 h3)
       ·have:=ht.2 ⟨h,h3⟩;cases this
     refine al.2 (hRj _ _ ⟨?_,T⟩);rw[f1]at o;rw[←f2];rcases hz with rfl|rfl
     ·exact o
     ·exact o
  rintro _ h3 ⟨o3,k3⟩;refine Join.intro (fun _ h4=>∃R1,OwnS eg 2 ar M h4 s (A++(R1++(U2++(V2++B))))∧St lt (U1++V1) R1∧Upd M Y h4) (fun Rj hRj=>?_) ?_
  ·refine Join.intro (fun t h4=>h4=h3∧(t=true↔0<U1.length∧0<V1.length)) (fun Rk Z=>?_) ?_
   ·refine aB (fun h=>Z _ _ ⟨rfl,?_⟩) fun h=>Z _ _ ⟨rfl,⟨fun h=>(by cases h),fun h=>(by omega)⟩⟩
    rw[decide_eq_true_iff];constructor
    ·intro h;constructor<;>omega
    ·rintro⟨h1,N⟩;omega
   ·rintro t h4 ⟨rfl,ht⟩
    cases t with
    |true=>
     obtain⟨p1,p2⟩:=ht.1 rfl;refine ax.2 (ih (by omega) o3 (hc.step k3 hi) p1 p2 sA1 sB1 ha (by omega) (by omega) fun W R1 o5 s5 k5=>hRj _ _ ⟨R1,o5,s5,k3.trans k5 fun b O=>.inl O⟩)
    |false=>
     refine al.2 (hRj _ _ ⟨U1++V1,by simpa using o3,⟨Eqf.rfl _,?_⟩,k3⟩)
     rcases eJ U1.length with h|h
     ·rw[aF.1 h];exact sB1
     ·rcases eJ V1.length with W|W
      ·rw[aF.1 W,bh];exact sA1
      ·have:=ht.2 ⟨h,W⟩;cases this
  rintro _ h4 ⟨R1,o4,s1,k4⟩;have hR1:=s1.eqf.len;rw[ad]at hR1;have fin:∀{W:ae} {R2:List (Pr)},OwnS eg 2 ar M W s (A++(R1++(R2++B)))→St lt (U2++V2) R2→Upd M Y W→K () W:=fun{W R2} o5 s2 k5=>by
   refine hk W (R1++R2) ?_ (OY w sU sV c1 c2 s1 s2) k5;rw[au];exact o5
  refine Join.intro (fun t W=>W=h4∧(t=true↔0<U2.length∧0<V2.length)) (fun Rk Z=>?_) ?_
  ·refine aB (fun h=>Z _ _ ⟨rfl,?_⟩) fun h=>Z _ _ ⟨rfl,⟨fun h=>(by cases h),fun h=>(by omega)⟩⟩
   rw[decide_eq_true_iff];constructor
   ·intro h;constructor<;>omega
   ·rintro⟨h1,N⟩;omega
  ·rintro t W ⟨rfl,ht⟩
   have f1:A++(R1++(U2++(V2++B)))=(A++R1)++(U2++(V2++B)):=by simp
   cases t with
   |true=>
    obtain⟨p1,p2⟩:=ht.1 rfl;rw[f1]at o4;refine ax.2 (ih (by omega) o4 (hc.step k4 hi) p1 p2 sA2 sB2 (by rw[ad];omega) (by rw[ad];omega) (by rw[ad];omega) fun h6 R2 o6 s6 k6=>fin (R2:=R2) ?_ s6 (k4.trans k6 fun b O=>.inl O))
    rw[au]at o6;exact o6
   |false=>
    refine al.2 (fin (R2:=U2++V2) (by simpa using o4) ⟨Eqf.rfl _,?_⟩ k4);rcases eJ U2.length with h|h
    ·rw[aF.1 h];exact sB2
    ·rcases eJ V2.length with h6|h6
     ·rw[aF.1 h6,bh];exact sA2
     ·have:=ht.2 ⟨h,h6⟩;cases this
theorem LH{lt:Pr→Pr→Bool}(w:WO lt){M:Nat→Prop}{Iv:ae→Prop}{j:Value}(hc:Cmp lt eg M Iv j){h:ae}{s:SliceV}{xs:List (Pr)}(ho:OwnS eg 2 ar M h s xs)(hi:Iv h)(hn:xs.length≤100000000){K:Unit→ae→Prop}
  (hk:∀c R,OwnS eg 2 ar M c s R→St lt xs R→Upd M h c→K () c):HC PG cR [.slice s.a s.len s.cap,j] [] K h:=by
 refine jN s j ?_;unfold fZ;refine oX s (s.len:Int) j ?_;unfold jC;have m:=ho.len;have i:s.len≤1000000000:=by omega
 refine LoopP.ghost (fun(g:List (Pr)×List (Pr)×List (Pr)) (t:Int×Int) c=>t.1=(g.2.1.length:Int)∧t.2=((g.2.1.length+20:Nat):Int)∧xs=g.1++g.2.2∧Eqf lt g.1 g.2.1∧Full lt 20 g.2.1∧OwnS eg 2 ar M c s (g.2.1++g.2.2)∧Upd M h c) (fun g=>g.2.2.length) ([],[],xs)
  ⟨rfl,rfl,rfl,Eqf.rfl _,Full.nil,ho,Upd.refl _ _⟩ ?_
 rintro I ⟨X,D,T⟩ ⟨ta,tb⟩ h1 ⟨n,N,U,e,k,O,k1⟩ hI;simp only at n N U e k O;subst n N U;have hXD:=e.len;simp only[ad]at m hn;refine aB (fun hle=>?_) fun E=>?_
 ·obtain⟨S,T',rfl,hS⟩:∃S T',T=S++T'∧S.length=20:=⟨T.take 20,T.drop 20,(aG ..).symm,by rw[aD];omega⟩
  refine Cr w hc O (hc.step k1 hi) i rfl (b:=D.length+20) (by omega) fun h2 R z y F=>?_
  have B:=y.eqf.len;simp only[ad]at m hn;have G:IntKind.wrap .i64 (((D.length+20:Nat):Int)+20)=(((D++R).length+20:Nat):Int):=by rw[ad,ji (by omega)];omega
  rw[G];refine hI (X++S,D++R,T') _ _ ⟨by simp only[ad];omega,rfl,by simp,e.app y.eqf,k.app (by omega) y.srt,by rw[au];exact z,k1.trans F fun b p=>.inl p⟩ (by simp only[ad];omega)
 have W:D++T=D++(T++ []):=by simp
 rw[W]at O;refine Cr w hc O (hc.step k1 hi) i rfl (b:=s.len) (by omega) fun h2 R z y F=>?_
 have B:=y.eqf.len;rw[bh]at z;have v:Eqf lt (X++T) (D++R):=e.app y.eqf;have L:Runs lt 20 (D++R):=k R (.last R (by omega) y.srt);have F:Upd M h h2:=k1.trans F fun b p=>.inl p
 generalize D++R=ys at z v L;generalize X++T=zs at v hk;have d:s.len=ys.length:=z.len;clear hI e k O W E B;refine LoopP.ghost (fun(g:Nat×List (Pr)) (t:Int) c=>t=(g.1:Int)∧0<g.1∧g.1≤200000000∧Runs lt g.1 g.2∧Eqf lt zs g.2∧OwnS eg 2 ar M c s g.2∧Upd M h c) (fun g=>s.len-g.1) (20,ys)
  ⟨rfl,by simp,by simp,L,v,z,F⟩ ?_
 rintro I2 ⟨a,ys⟩ t h3 ⟨n,hb0,hb1,hr,q,V,k3⟩ hI2;simp only at n hb0 hb1 hr q V;subst n;have d:s.len=ys.length:=V.len;refine aB (fun hlt=>?_) fun hge=>?_
 ·have hlt:a<s.len:=by omega
  have e0:IntKind.wrap .i64 (2*(a:Int))=((2*a:Nat):Int):=by rw[ji (by omega)];omega
  rw[e0];refine LoopP.ghost (fun(g:List (Pr)×List (Pr)×List (Pr)) (t:Int×Int) c=>t.1=(g.2.1.length:Int)∧t.2=((g.2.1.length+2*a:Nat):Int)∧ys=g.1++g.2.2∧Eqf lt g.1 g.2.1∧Full lt (2*a) g.2.1∧Runs lt a g.2.2∧OwnS eg 2 ar M c s (g.2.1++g.2.2)∧Upd M h c) (fun g=>g.2.2.length) ([],[],ys)
   ⟨rfl,by simp,rfl,Eqf.rfl _,Full.nil,hr,V,k3⟩ ?_
  rintro I3 ⟨Y,D,T⟩ ⟨ta,tb⟩ h4 ⟨n,N,U,e,k,f,J,H⟩ Z;simp only at n N U e k f J;subst n N U;have hYD:=e.len;simp only[ad]at d;have ea:IntKind.wrap .i64 ((D.length:Int)+(a:Int))=((D.length+a:Nat):Int):=by rw[ji (by omega)];omega
  simp only;rw[ea];refine aB (fun hle=>?_) fun E=>?_
  ·obtain⟨B1,T1,rfl,hB1,o,u⟩:=f.split (by omega)
   simp only[ad]at d;obtain⟨B2,T2,rfl,hB2,sB2,hr2⟩:=u.split (by omega);simp only[ad]at d;refine zM w hc i (B1.length+B2.length) (aj _) J (hc.step H hi) (by omega) (by omega) o sB2 rfl (by omega) (by omega) fun C R A x P=>?_
   have B:=x.eqf.len;rw[ad]at B;have G:IntKind.wrap .i64 (((D.length+2*a:Nat):Int)+((2*a:Nat):Int))=(((D++R).length+2*a:Nat):Int):=by rw[ad,ji (by omega)];omega
   rw[G];refine Z (Y++(B1++B2),D++R,T2) _ _ ⟨by simp only[ad];omega,rfl,by simp,e.app x.eqf,k.app (by omega) x.srt,hr2,by rw[au];exact A,H.trans P fun b p=>.inl p⟩ (by simp only[ad];omega)
  ·refine Join.intro (fun _ C=>∃R,Eqf lt T R∧Runs lt (2*a) R∧OwnS eg 2 ar M C s (D++R)∧Upd M h C) (fun Rj Q=>?_) ?_
   ·refine aB (fun hmn=>?_) fun hmn=>?_
    ·obtain⟨B1,T1,rfl,hB1,o,u⟩:=f.split (by omega)
     simp only[ad]at d;have W:D++(B1++T1)=D++(B1++(T1++ [])):=by simp
     rw[W]at J;refine zM w hc i (B1.length+T1.length) (aj _) J (hc.step H hi) (by omega) (by omega) o (u.short (by omega)) rfl (by omega) (by omega) fun C R A x P=>?_
     have B:=x.eqf.len;rw[ad]at B;rw[bh]at A;exact Q _ _ ⟨R,x.eqf,.last R (by omega) x.srt,A,H.trans P fun b p=>.inl p⟩
    ·exact Q _ _ ⟨T,Eqf.rfl _,.last T (by omega) (f.short (by omega)),J,H⟩
   ·rintro _ C ⟨R,q5,r5,A,P⟩
    have G:IntKind.wrap .i64 ((a:Int)*2)=((2*a:Nat):Int):=by rw[ji (by omega)];omega
    rw[G];exact hI2 (2*a,D++R) _ _ ⟨rfl,by simp only;omega,by simp only;omega,k R r5,q.tr (e.app q5),A,P⟩ (by simp only;omega)
 ·exact hk h3 ys V ⟨q,hr.short (by omega)⟩ k3
end Go.Proofs
namespace Go.Proofs
open Go Go.Lift
def StP(N:Nat):Prop:=∀{lt:Pr→Pr→Bool},WO lt→∀{M:Nat→Prop} {Iv:ae→Prop} {cmp:Value},Cmp lt eg M Iv cmp→∀{h:ae} {s:SliceV} {xs:List Pr},OwnS eg 2 ar M h s xs→Iv h→xs.length≤N→∀{K:Unit→ae→Prop},
 (∀h' R,OwnS eg 2 ar M h' s R→St lt xs R→Upd M h h'→K () h')→HC PG cR [.slice s.a s.len s.cap,cmp] [] K h
theorem stP:StP 100000000:=fun w _ _ _ hc _ _ _ a hi b _ c=>LH w hc a hi b c
end Go.Proofs
namespace Go.Proofs
open Go Go.Lift
def TG(a b:Pr):Bool:=decide (kl a.1 b.1)
theorem U3:WO TG:=by
 refine⟨fun a=>decide_eq_false (cD _),fun a b h=>decide_eq_false fun k=>cD _ (iB (of_decide_eq_true h) k),fun a b c h k=>decide_eq_false fun d=>?_⟩
 have h:=of_decide_eq_false h;have k:=of_decide_eq_false k;by_cases e:b.1=c.1
 ·rw[←e]at d;exact h d
 ·have f:=qE k e
  exact h (iB d f)
theorem TX(x a:Pr):Lp TG x a=decide (a.1=x.1):=by
 unfold Lp TG;by_cases e:a.1=x.1
 ·rw[decide_eq_true e,e,decide_eq_false (cD _)];rfl
 ·rw[decide_eq_false e]
  by_cases h:kl a.1 x.1
  ·rw[decide_eq_true h];rfl
  ·rw[decide_eq_false h,decide_eq_true (qE h e)];rfl
def jM(l:List Pr)(k:ByteArray):Option Pr:=(l.filter fun q=>decide (q.1=k)).getLast?
theorem rH(q:Pr)(l:List Pr)(k:ByteArray):jM (q::l) k=if q.1=k then some ((jM l k).getD q)else jM l k:=by
 unfold jM;rw[List.filter_cons];by_cases h:q.1=k
 ·rw[if_pos (decide_eq_true h),if_pos h,List.getLast?_cons]
 ·rw[if_neg (by simpa using h),if_neg h]
theorem Pv{l:List Pr}{k:ByteArray}{p:Pr}(h:jM l k=some p):p.1=k:=by
 unfold jM at h;have:=ia h;exact of_decide_eq_true (d9.1 this).2
theorem GM{l:List Pr}{k:ByteArray}{p:Pr}(h:jM l k=some p):p∈l:=by
 unfold jM at h;exact(d9.1 (ia h)).1
theorem Mm{l:List Pr}{k:ByteArray}(h:∀q∈l,q.1≠k):jM l k=none:=by
 unfold jM;rw[List.filter_eq_nil_iff.2 fun q a=>by simpa using h q a];rfl
theorem Rz{l l':List Pr}(h:Eqf TG l l')(k:ByteArray):jM l' k=jM l k:=by
 unfold jM;have:=h.flt (k,k);have e:∀m:List Pr,m.filter (Lp TG (k,k))=m.filter fun q=>decide (q.1=k):=fun m=>List.filter_congr fun q _=>TX (k,k) q
 rw[e,e]at this;rw[this]
def Ju(l:List Pr):List Pr:=l.foldl (fun acc p=>gA p acc) []
theorem BE:∀(l:List Pr) {acc:List Pr},cx acc→cx (l.foldl (fun acc p=>gA p acc) acc)∧∀p,p∈l.foldl (fun acc p=>gA p acc) acc↔jM l p.1=some p∨(jM l p.1=none∧p∈acc)
 | [],acc,hr=>⟨hr,fun p=>by simp[jM]⟩
 |q::l,acc,hr=>by
  obtain⟨d,b⟩:=BE l (xh q hr);refine⟨d,fun p=>?_⟩
  rw[List.foldl_cons,b p,rH,ql hr];by_cases e:q.1=p.1
  ·rw[if_pos e]
   cases hl:jM l p.1 with
   |none=>
    simp only[Option.getD_none,Option.some.injEq,reduceCtorEq,false_or,false_and,or_false];constructor
    ·rintro⟨_,rfl|⟨_,h⟩⟩
     ·rfl
     ·exact absurd e.symm h
    ·rintro rfl;exact⟨trivial,.inl rfl⟩
   |some r=>simp
  ·rw[if_neg e]
   constructor
   ·rintro(h|⟨h,rfl|⟨a,_⟩⟩)
    ·exact .inl h
    ·exact absurd rfl e
    ·exact .inr ⟨h,a⟩
   ·rintro(h|⟨h,a⟩)
    ·exact .inl h
    ·exact .inr ⟨h,.inr ⟨a,fun c=>e c.symm⟩⟩
theorem Gq(l:List Pr):cx (Ju l):=(BE l ey).1
theorem N7{l:List Pr}{p:Pr}:p∈Ju l↔jM l p.1=some p:=by
 have:=(BE l (acc:= []) ey).2 p;unfold Ju;rw[this];simp
def lw:List Pr→List Pr
 | []=> []
 | [p]=> [p]
 |p::q::l=>if q.1=p.1 then lw (q::l)else p::lw (q::l)
theorem qm(p q:Pr)(l:List Pr):lw (p::q::l)=if q.1=p.1 then lw (q::l)else p::lw (q::l):=rfl
theorem yJ:∀(l:List Pr),∀p∈lw l,p∈l
 | [],p,h=>h
 | [q],p,h=>h
 |q::r::l,p,h=>by
  rw[qm]at h;split at h
  ·exact aL _ (yJ (r::l) p h)
  ·rcases aw.1 h with rfl|h
   ·exact av ..
   ·exact aL _ (yJ (r::l) p h)
theorem GL:∀{l:List Pr},Srt TG l→cx (lw l)∧∀p,p∈lw l↔jM l p.1=some p
 | [],_=>⟨ey,fun p=>by simp[lw,jM]⟩
 | [q],_=>⟨List.pairwise_singleton ..,fun p=>by
   show p∈[q]↔_
   rw[aq,rH]
   by_cases e:q.1=p.1
   ·rw[if_pos e];simp[jM,eq_comm]
   ·rw[if_neg e];simp only[jM,List.filter_nil,List.getLast?_nil,reduceCtorEq,iff_false]
    rintro rfl;exact e rfl⟩
 |p::q::l,hs=>by
  have b:=ba.1 hs;obtain⟨i,g⟩:=GL (l:=q::l) b.2;rw[qm];by_cases e:q.1=p.1
  ·rw[if_pos e]
   refine⟨i,fun r=>?_⟩
   rw[g r,rH p];by_cases a:p.1=r.1
   ·rw[if_pos a]
    have:jM (q::l) r.1≠none:=by
     rw[rH,if_pos (e.trans a)];simp
    cases hl:jM (q::l) r.1 with
    |none=>exact absurd hl this
    |some z=>simp
   ·rw[if_neg a]
  ·rw[if_neg e]
   have d:∀r∈q::l,kl p.1 r.1:=fun r f=>by
    have c:kl p.1 q.1:=by
     have:=of_decide_eq_false (b.1 q (av ..));exact qE this e
    rcases aw.1 f with rfl|f
    ·exact c
    ·have:=of_decide_eq_false ((ba.1 b.2).1 r f)
     by_cases a:r.1=q.1
     ·rw[a];exact c
     ·exact iB c (qE this a)
   refine⟨ba.2 ⟨fun r f=>d r (yJ _ r f),i⟩,fun r=>?_⟩
   rw[aw,g r,rH p];by_cases a:p.1=r.1
   ·rw[if_pos a]
    have j:jM (q::l) r.1=none:=Mm fun z hz k=>by
     have:=d z hz;rw[k,a]at this;exact cD _ this
    rw[j];simp[eq_comm]
   ·rw[if_neg a]
    constructor
    ·rintro(rfl|h)
     ·exact absurd rfl a
     ·exact h
    ·exact .inr
theorem Ml{l ys:List Pr}(h:St TG l ys):lw ys=Ju l:=by
 obtain⟨b,a⟩:=GL h.srt;refine xi b (Gq l) fun p=>?_
 rw[a p,N7,Rz h.eqf]
theorem Wp(M:Nat→Prop):Cmp TG eg M (fun _=>True) (.func (.func qH) #[] #[]):=by
 refine⟨fun a b h K _ g=>HV.mk' (C3 a b ?_),fun _ h=>h⟩
 unfold vY pt ay tV;refine aP fun j b1 k1=>aP fun i b2 c=>?_
 have d:=c.get0 b1;refine⟨a.1,vc d 0,a.2,vc d 1,b.1,vc b2 0,?_⟩;refine J9 fun e f=>g e _ ((k1.tr c).tr f) ?_
 unfold Il TG;split
 ·rename_i h;rw[decide_eq_true h];rfl
 ·rename_i h
  rw[decide_eq_false h];split<;>rfl
theorem Em:∀(l:List Pr),(lw l).length≤l.length
 | []=>aj _
 | [_]=>aj _
 |p::q::l=>by
  rw[qm];have:=Em (q::l);split
  ·simp only[az]at this⊢;omega
  ·simp only[az]at this⊢;omega
theorem Q6{h:ae}{t:TypeId}{p:Pr}{k:ae→Prop}(b:∀h',h'[h.size]? =some (.cells #[.string p.1,.string p.2] t (0,0))→Upd No h h'→k h'):
 At (hnew h [.string (⟨#[]⟩:ByteArray),.string (⟨#[]⟩:ByteArray)] t) (fun a=>uD a (some (aC h)) 0 [.string p.1,.string p.2]∧At (iC a (aC h) 0 [.string p.1,.string p.2]) k):=qT (p:=p) b
theorem LJ{N:Nat}(st:StP N)(hN:N≤100000000){W W':Nat→Prop}{h:ae}{s:SliceV}{l:List Pr}(hs:Sl eg 2 W h s l)(V:∀y,W' y→y<h.size)(hn:l.length≤N){K:SliceV→ae→Prop}
  (hk:∀s' n,Sl eg 2 W' n s' (Ju l)→s'.len≤s'.cap→Upd No h n→K s' n):HC PG qc [.slice s.a s.len s.cap] [.c .slice] K h:=by
 refine F6 s ?_;unfold ym bR cQ aY qg nv jU im ay;refine xx hs (by omega) fun F h1 U w=>?_
 refine st U3 (Wp _) U trivial (by omega) fun h2 ys B A hu2=>?_
 have hyl:=A.eqf.len;have D:Upd No h h2:=w.trans hu2 fun x hx=>.inr hx
 have hlen:=B.len;have o:=Ml A;have z1:=w.size;have hll:=Em ys;refine LoopP.ghost (fun(g:List Pr×List Pr×List Pr) (t:Int×Int) n=>t.1=(g.1.length:Int)∧t.2=((g.1.length+g.2.1.length:Nat):Int)∧g.1++lw g.2.2=lw ys∧g.1.length+g.2.1.length+g.2.2.length=ys.length∧OwnS eg 2 ar (fun b=>h.size≤b) n F (g.1++(g.2.1++g.2.2))∧Upd No h n) (fun g=>g.2.2.length) ([],[],ys)
  ⟨rfl,rfl,rfl,by simp,B,D⟩ ?_
 rintro I ⟨R,G,T⟩ ⟨tn,ti⟩ h3 ⟨e1,H,f,k,j,C⟩ hI;simp only at e1 H f k j;subst e1 H;refine aB (fun hlt=>?_) fun hge=>?_
 ·match T with
  | []=>simp only[bw]at k;omega
  |p::T=>
   simp only[az]at k;have ew:IntKind.wrap .i64 (((R.length+G.length:Nat):Int)+1)=((R.length+G.length+1:Nat):Int):=by rw[ji (by omega)];omega
   simp only;rw[ew];refine Join.intro (fun n' n=>∃R' G',n'=(R'.length:Int)∧R'.length+G'.length=R.length+G.length+1∧R'++lw T=lw ys∧OwnS eg 2 ar (fun b=>h.size≤b) n F (R'++(G'++T))∧Upd No h n) (fun Rj v=>?_) ?_
   ·obtain⟨a,J,hv⟩:=xk j (i:=R.length+G.length) (x:=p) (by rw[aQ (by omega),fh,aQ (aj _),fY];rfl)
    refine⟨⟨by omega,by omega⟩,a,J,p.1,hv 0 _ rfl,p.2,hv 1 _ rfl,?_⟩
    refine Q6 (p:=p) fun h4 Z k4=>?_
    have d:=j.upd k4 fun _ _ h=>h
    have u:=C.tr k4;refine Join.intro (fun t n=>n=h4∧(t=true↔∃q T',T=q::T'∧q.1=p.1)) (fun Rk z=>?_) ?_
    ·refine aB (fun hlt2=>?_) fun hge2=>z _ _ ⟨rfl,⟨fun h=>(by cases h),fun⟨q,T',e,_⟩=>(by subst e;simp only[az]at k;omega)⟩⟩
     rcases T with _|⟨q,T⟩
     ·simp only[bw]at k;omega
     ·obtain⟨a',M,P⟩:=xk d (i:=R.length+G.length+1) (x:=q) (by rw[aQ (by omega),show R.length+G.length+1-R.length=G.length+1 by omega,aQ (by omega),fh];rfl)
      refine⟨⟨by omega,by omega⟩,a',M,q.1,P 0 _ rfl,p.1,vc Z 0,z _ _ ⟨rfl,?_⟩⟩
      rw[jB,decide_eq_true_iff];exact⟨fun e=>⟨q,T,rfl,e⟩,fun⟨q',T',e,e'⟩=>by cases e;exact e'⟩
    ·rintro t h5 ⟨rfl,ht⟩
     ·cases t with
      |true=>
       obtain⟨q,T',rfl,eq⟩:=ht.1 rfl;refine ax.2 (v _ _ ⟨R,G++ [p],rfl,by simp;omega,?_,by simpa using d,u⟩)
       rw[←f,qm,if_pos eq]
      |false=>
       have E:lw (p::T)=p::lw T:=by
        rcases T with _|⟨q,T'⟩
        ·rfl
        ·rw[qm,if_neg fun e=>by have:=ht.2 ⟨q,T',rfl,e⟩;cases this]
       refine al.2 ⟨p.1,vc Z 0,p.2,vc Z 1,⟨by omega,by omega⟩,a,J,?_⟩
       have O:IntKind.wrap .i64 ((R.length:Int)+1)=((R++ [p]).length:Int):=by rw[ad,aE,ji (by omega)];omega
       rw[O];rcases G with _|⟨g,G⟩
       ·rw[dM]at d
        refine tT d p J (by simp) fun h6 o6 k6=>v _ _ ⟨R++ [p],[],rfl,by simp,?_,by simpa using o6,u.trans k6 fun b L=>.inr L⟩
        rw[←f,E];simp
       ·have f1:R++((g::G)++p::T)=R++g::(G++p::T):=by simp
        rw[f1]at d;refine tT d p J (by simp) fun h6 o6 k6=>v _ _ ⟨R++ [p],G++ [p],rfl,by simp;omega,?_,by simpa using o6,u.trans k6 fun b L=>.inr L⟩
        rw[←f,E];simp
   ·rintro n' h6 ⟨R',G',rfl,S,Q,Y,X⟩
    exact hI (R',G',T) _ _ ⟨rfl,by simp only;rw[S],Q,by simp only;omega,Y,X⟩ (by simp)
 ·have E:T= []:=aF.1 (by omega)
  subst E;simp only[bw]at k;simp only[lw,bh]at f j;have hcap:=j.cap;refine⟨⟨by simp only;omega,by simp only;omega⟩,?_⟩
  have hsl:=j.sl (W:=W') fun x hx _ hw=>by have:=V x hw;omega
  have hA:=Sl.sub hsl (l:=0) (hi:=R.length) (m:=F.cap) (c:=F.cap-0) (aS _) (by simp) (by omega);have H:((R++G).drop 0).take (R.length-0)=Ju l:=by rw[List.drop_zero,Nat.sub_zero,hO];exact f.trans o
  rw[H]at hA;exact hk _ _ hA (by simp only;omega) C
theorem OZ{W W':Nat→Prop}{h:ae}{s:SliceV}{l:List Pr}(c:Sl eg 2 W h s l)(a:∀y,W' y→y<h.size)(d:l.length≤10000000){K:SliceV→ae→Prop}
 (b:∀s' h',Sl eg 2 W' h' s' (Ju l)→s'.len≤s'.cap→Upd No h h'→K s' h'):HC PG qc [.slice s.a s.len s.cap] [.c .slice] K h:=LJ stP (aj _) c a (by omega) b
end Go.Proofs
namespace Go.Proofs
open Go Go.Lift
end Go.Proofs
namespace Go.Proofs
open Go Go.Lift
end Go.Proofs
namespace Go.Proofs
open Go Go.Lift
theorem StP.less{N M:Nat}(h:StP N)(hm:M≤N):StP M:=fun w _ _ _ hc _ _ _ a hi b _ c=>h w hc a hi (Nat.le_trans b hm) c
end Go.Proofs
