/- A part of the proof that the named laws of this program answer true, whatever the input. -/
import Derived.Test.YtajpljopgikpgaaGreatDoorPart6
import Derived.Test.YtajpljopgikpgaaGreatDoorLift3
open List renaming flatMap_cons→ba,getElem?_eq_getElem→ag,length_set→cQ,getElem?_set→eE,getElem?_eq_none→qP,length_append→ad,length_singleton→aF,flatMap_append→bN,append_nil→bB,append_assoc→az,getElem?_append_right→bh,length_cons→aH,take_left→gV,getElem?_append_left→bK,getElem?_eq_some_iff→aG,length_nil→bL,length_eq_zero_iff→aO,nil_append→dE,take_append_drop→aS,length_take→aP,length_drop→aZ,mem_singleton→au,mem_cons→aB,getElem_of_mem→bV,mem_of_getLast?→iT,mem_filter→eP,mem_cons_of_mem→aV,mem_cons_self→aC,pairwise_cons→bA
open List.Pairwise renaming nil→fc
open Nat renaming zero_le→bj,le_refl→ao,sub_self→gu,eq_zero_or_pos→fq,add_sub_cancel_left→fG
namespace Go.Proofs
open Go Go.Lift
abbrev Wk:=Option Addr×ByteArray×Bool
abbrev SQ(x:Wk):List Value:= [.pointer x.1,.string x.2.1,.bool x.2.2]
theorem Lq(x:Wk):(SQ x).length=3∧0<3:=⟨rfl,by omega⟩
theorem RX:∀xs:List Wk,cH (xs.flatMap SQ)=true
 | []=>rfl
 |x::xs=>by rw[ba];exact kA rfl (RX xs)
theorem Vm{α:Type}{l:List α}{i:Nat}(hi:i<l.length)(x:α):l.take i++x::l.drop (i+1)=l.set i x:=by rw[List.set_eq_take_append_cons_drop,if_pos hi]
theorem PM{M:Nat→Prop}{h:af}{s:SliceV}{xs:List Wk}(V:OwnS SQ 3 eK M h s xs)(hn:xs.length≤1000000000){K:Unit→af→Prop}(o:∀q,OwnS SQ 3 eK M q s xs.reverse→Upd M h q→K () q):HC PG fL [.slice s.a s.len s.cap] [] K h:=by
 refine nC s ?_;unfold iQ cS bo eH ph dZ Ja;have N:=V.len;have Y:IntKind.wrap .i64 ((s.len:Int)-1)=(xs.length:Int)-1-((0:Nat):Int):=by rw[jj (by omega)];omega
 rw[Y];refine LoopP.ghost (fun(i:Nat) (t:Int×Int) q=>t.1=(i:Int)∧t.2=(xs.length:Int)-1-(i:Int)∧i≤xs.length∧(∃ys,OwnS SQ 3 eK M q s ys∧ys.length=xs.length∧∀k,k<xs.length→ys[k]? =if k<i∨xs.length-i≤k then xs[xs.length-1-k]? else xs[k]?)∧Upd M h q) (fun i=>xs.length-i) 0
  ⟨rfl,rfl,bj _,⟨xs,V,rfl,fun k o=>by rw[if_neg (by omega)]⟩,Upd.refl _ _⟩ ?_
 rintro I i ⟨ti,tj⟩ q ⟨T,R,hi,⟨ys,d,H,f⟩,O⟩ X;simp only at T R;subst T R;refine aM (fun w=>?_) fun D=>?_
 ·have w:2*i+1<xs.length:=by have:(i:Int)<(xs.length:Int)-1-(i:Int):=w;omega
  obtain⟨j,Z⟩:∃j:Nat,(xs.length:Int)-1-(i:Int)=(j:Int):=⟨xs.length-1-i,by omega⟩
  have hjn:j=xs.length-1-i:=by omega
  simp only;rw[Z];have c:i<ys.length:=by omega
  have p:j<ys.length:=by omega
  have sl:=d.sl (W:=No) fun _ _ _ h=>h
  obtain⟨a,m,_,hv⟩:=sl.at (ag p);obtain⟨a',u,_,g⟩:=sl.at (ag c);rw[m]at u;cases u;refine⟨⟨by omega,by omega⟩,a,m,ys[j].1,hv 0 _ rfl,ys[j].2.1,hv 1 _ rfl,ys[j].2.2,hv 2 _ rfl,⟨by omega,by omega⟩,a,m,ys[i].1,g 0 _ rfl,ys[i].2.1,g 1 _ rfl,ys[i].2.2,g 2 _ rfl,⟨by omega,by omega⟩,?_⟩
  obtain⟨b,C,E,hw,z,L⟩:=OwnS.setAt d c ys[j];rw[m]at C;cases C;rw[Vm c]at z;refine⟨a,m,hw,ce ⟨⟨by omega,by omega⟩,a,m,?_⟩⟩
  obtain⟨b,C,_,G,B,J⟩:=OwnS.setAt z (k:=j) (by rw[cQ];omega) ys[i];rw[m]at C;cases C;rw[Vm (by rw[cQ];omega)]at B;refine⟨G,ce ?_⟩;rw[cO (n:=xs.length) (by omega) (by omega)];have F:IntKind.wrap .i64 ((j:Int)-1)=(xs.length:Int)-1-((i+1:Nat):Int):=by rw[jj (by omega)];omega
  rw[F];refine X (i+1) _ _ ⟨rfl,rfl,by omega,⟨_,B,by rw[cQ,cQ];exact H,fun k o=>?_⟩,?_⟩ (by omega)
  ·rw[eE,cQ]
   have Q:=f i (by omega);have v:=f j (by omega);rw[if_neg (by omega),ag c]at Q;rw[if_neg (by omega),ag p]at v;by_cases S:j=k
   ·rw[if_pos S,if_pos p,if_pos (by omega),Q]
    congr 1;omega
   ·rw[if_neg S,eE]
    by_cases P:i=k
    ·rw[if_pos P,if_pos c,if_pos (by omega),v]
     congr 1;omega
    ·rw[if_neg P,f k o]
     by_cases A:k<i∨xs.length-i≤k
     ·rw[if_pos A,if_pos (by omega)]
     ·rw[if_neg A,if_neg (by omega)]
  ·exact(O.trans L fun y d=>.inl (by have d:y=a.block:=d;rw[d];exact E)).trans J fun y d=>.inl (by have d:y=a.block:=d;rw[d];exact E)
 ·have D:xs.length≤2*i+1:=by have:¬(i:Int)<(xs.length:Int)-1-(i:Int):=D;omega
  have e:ys=xs.reverse:=by
   apply List.ext_getElem?;intro k;by_cases o:k<xs.length
   ·rw[f k o,List.getElem?_reverse o]
    by_cases A:k<i∨xs.length-i≤k
    ·rw[if_pos A]
    ·rw[if_neg A];congr 1;omega
   ·rw[qP (by omega),qP (by rw[List.length_reverse];omega)]
  subst e;exact o _ d O
theorem OwnS.pop{α:Type}{f:α→List Value}{sz:Nat}{t:TypeId}{M:Nat→Prop}{h:af}{s:SliceV}{xs:List α}{x:α}(c:OwnS f sz t M h s (xs++ [x])):OwnS f sz t M h ⟨bq s.a 0 s.cap sz,xs.length,s.cap⟩ xs:=by
 have j:=c.len;have hc:=c.cap;rw[ad,aF]at j;refine⟨rfl,c.ne,by simp only;omega,c.blk.imp id fun⟨b,a,i,d,aR,g⟩=>⟨b,f x++a,?_,d,?_,?_⟩⟩
 ·simp only;rw[i,sub_zero]
 ·rw[aR,bN,ba,List.flatMap_nil,bB,az]
 ·rw[ad,(c.ne x).1,g]
  simp only;have:s.cap-xs.length=(s.cap-s.len)+1:=by omega
  rw[this,Nat.add_mul];omega
structure It where
 b:Nat
 ah:ByteArray
 own:Bool
 sl:ByteArray
 w:Option ByteArray
 F:Fo
def It.raw(i:It):Wk:=(some ⟨i.b,0,none⟩,i.ah,i.own)
def It.key(i:It):List UInt8:=i.ah.data.toList++i.sl.data.toList
def It.prs(i:It):List (List UInt8×ByteArray):=if i.own then(i.w.map fun v=>(i.key,v)).toList else(ng i.w i.F).map fun p=>(i.key++p.1,p.2)
def It.cost(i:It):Nat:=if i.own then 1 else 2+2*C3 i.F
def xA(l:List It):List (List UInt8×ByteArray):=l.reverse.flatMap It.prs
def lP(l:List It):Nat:=(l.map It.cost).sum
theorem Kj(l:List It)(i:It):xA (l++ [i])=i.prs++xA l:=by unfold xA;rw[List.reverse_append];rfl
theorem Ag(l m:List It):lP (l++m)=lP l+lP m:=by unfold lP;rw[List.map_append,List.sum_append]
theorem Vu(l m:List It):xA (l++m)=xA m++xA l:=by unfold xA;rw[List.reverse_append,bN]
end Go.Proofs
namespace Go.Proofs
open Go Go.Lift
section
variable {α:Type} {f:α→List Value} {sz:Nat} {t:TypeId} {M:Nat→Prop} {h:af} {s:SliceV} {P Q:List α} {x:α}
theorem mJ(c:OwnS f sz t M h s (P++x::Q)){i:Nat}(hi:i=P.length):∃a,s.a=some a∧∀j v,(f x)[j]? =some v→aR h (adr (adr a (i*sz)) j)=some v:=by
 obtain⟨a,b,_,hv⟩:=(c.sl (W:=No) fun _ _ _ h=>h).at (i:=i) (x:=x) (by rw[hi,bh (ao _),gu];rfl)
 exact⟨a,b,hv⟩
theorem vX(u:OwnS f sz t M h s (P++x::Q))(y:α){a:Addr}(j:s.a=some a){i:Nat}(hi:i=P.length){G:af→Prop}(o:∀h',OwnS f sz t M h' s (P++y::Q)→Upd M h h'→G h'):
  vo h (some (adr a (i*sz))) 0 (f y)∧At (g8 h (adr a (i*sz)) 0 (f y)) G:=by
 obtain⟨a',d,hM,q,c,m⟩:=OwnS.setAt u (k:=i) (by rw[hi,ad,aH];omega) y;rw[j]at d;cases d;refine⟨q,ce (o _ ?_ (m.mono fun b g=>.inl (by have g:b=a.block:=g;rw[g];exact hM)))⟩
 subst hi;have n:(P++x::Q).take P.length=P:=gV;have p:(P++x::Q).drop (P.length+1)=Q:=by rw[←List.drop_drop,List.drop_left];rfl
 rw[n,p]at c;exact c
end
theorem zU{α:Type}{f:α→List Value}{sz:Nat}{t:TypeId}{M:Nat→Prop}{h:af}{s:SliceV}{xs:List α}{x:α}(c:OwnS f sz t M h s xs){i:Nat}(hi:xs[i]? =some x):∃a,s.a=some a∧∀j v,(f x)[j]? =some v→aR h (adr (adr a (i*sz)) j)=some v:=by
 obtain⟨a,b,_,hv⟩:=(c.sl (W:=No) fun _ _ _ h=>h).at hi
 exact⟨a,b,hv⟩
theorem VY{α:Type}{A U X:List α}{i:Nat}(hi:A.length+U.length≤i):(A++(U++X))[i]? =X[i-A.length-U.length]?:=by
 rw[bh (by omega),bh (by omega)]
theorem VZ{α:Type}{A U V B:List α}{i k:Nat}{x:α}(hi:A.length+U.length+k=i)(a:V[k]? =some x):(A++(U++(V++B)))[i]? =some x:=by
 rw[VY (by omega),show i-A.length-U.length=k by omega,bK (aG.1 a).1];exact a
theorem Sj{α:Type}{A U X:List α}{i k:Nat}{x:α}(hi:A.length+k=i)(a:U[k]? =some x):(A++(U++X))[i]? =some x:=by
 rw[bh (by omega),show i-A.length=k by omega,bK (aG.1 a).1];exact a
theorem Gv{i j:Nat}(h:i+j≤4000000000):IntKind.wrap .i64 (Int.fdiv (IntKind.wrap .u64 (IntKind.wrap .i64 ((i:Int)+(j:Int)))) (2^(min (1:Int).toNat (IntKind.bits .u64))))=(((i+j)/2:Nat):Int):=by
 have a:(2^(min (1:Int).toNat (IntKind.bits .u64)):Int)=2:=rfl;rw[a,jj (x:=(i:Int)+(j:Int)) (by omega),Go.IntWalk.u64_in _ (by omega),Int.fdiv_eq_ediv_of_nonneg _ (by omega),jj (by omega)];omega
theorem sF{α:Type}{lt:α→α→Bool}(w:WO lt){l:List α}(h:Srt lt l){i j:Nat}(b:i≤j){x y:α}(hx:l[i]? =some x) (d:l[j]? =some y):lt y x=false:=by
 obtain⟨hi,rfl⟩:=aG.1 hx;obtain⟨c,rfl⟩:=aG.1 d;rcases Nat.lt_or_ge i j with a|a
 ·exact List.pairwise_iff_getElem.1 h i j hi c a
 ·have:i=j:=by omega
  subst this;exact w.irr _
theorem Mg{α:Type}(l:List α):l= []∨∃l' y,l=l'++ [y]:=by
 rcases List.eq_nil_or_concat l with h|⟨l',y,h⟩
 ·exact .inl h
 ·exact .inr ⟨l',y,by rw[h,List.concat_eq_append]⟩
structure Cmp{α:Type}(lt:α→α→Bool)(f:α→List Value)(M:Nat→Prop)(Iv:af→Prop)(V:Value):Prop where
 call:∀(a b:α) {h:af} {K:Int→af→Prop},Iv h→(∀h' e,Upd No h h'→decide (e<0)=lt a b→K e h')→HV PG V [.agg (f a).toArray,.agg (f b).toArray] [.c (.int .i64)] K h
 step:∀{h h':af},Upd M h h'→Iv h→Iv h'
end Go.Proofs
namespace Go.Proofs
open Go Go.Lift
variable {z0:Hs}
end Go.Proofs
namespace Go.Proofs
open Go Go.Lift
theorem vW{M:Nat→Prop}{h:af}{s:SliceV}{A U C V B:List (Pr)}(S:OwnS fe 2 ay M h s (A++(U++(C++(V++B)))))(hn:s.len≤1000000000)(f:U.length=V.length){a b:Nat}(j:a=A.length)(y:b=A.length+U.length+C.length){n:Nat}(G:n=U.length){o:Value}{K:Unit→af→Prop}
  (R:∀m,OwnS fe 2 ay M m s (A++(V++(C++(U++B))))→Upd M h m→K () m):HC PG dN [.slice s.a s.len s.cap,.int .i64 a,.int .i64 b,.int .i64 n,o] [] K h:=by
 subst j y G;refine oQ s A.length (A.length+U.length+C.length:Nat) U.length o ?_;unfold jD bH cS jm ph;have d:=S.len;simp only[ad]at d;refine LoopP.ghost (fun(g:(List (Pr)×List (Pr))×List (Pr)×List (Pr)) (t:Int) m=>t=(g.1.1.length:Int)∧U=g.1.1++g.1.2∧V=g.2.1++g.2.2∧g.1.1.length=g.2.1.length∧OwnS fe 2 ay M m s (A++(g.2.1++(g.1.2++(C++(g.1.1++(g.2.2++B))))))∧Upd M h m) (fun g=>g.1.2.length) (([],U),[],V)
  ⟨rfl,rfl,rfl,rfl,S,Upd.refl _ _⟩ ?_
 rintro I ⟨⟨U1,U2⟩,V1,V2⟩ t m ⟨Q,O,J,L,c,H⟩ Y;simp only at Q O J L c;subst Q O J;simp only[ad]at f d;refine aM (fun q=>?_) fun F=>?_
 ·simp only[ad]at q
  match U2,V2 with
  | [],_=>simp only[bL]at q;omega
  |_::_,[]=>simp only[bL,aH]at f;omega
  |u::U2,v::V2=>
   simp only[aH]at f d;simp only[ad,aH];have E:IntKind.wrap .i64 (((A.length+(U1.length+(U2.length+1))+C.length:Nat):Int)+(U1.length:Int))=((A.length+(U1.length+(U2.length+1))+C.length+U1.length:Nat):Int):=by rw[jj (by omega)];omega
   have D:IntKind.wrap .i64 ((A.length:Int)+(U1.length:Int))=((A.length+U1.length:Nat):Int):=by rw[jj (by omega)];omega
   rw[E,D];have W:A++(V1++((u::U2)++(C++(U1++((v::V2)++B)))))=(A++V1)++u::(U2++(C++(U1++(v::V2++B)))):=by simp
   have f2:(A++V1)++u::(U2++(C++(U1++(v::V2++B))))=((A++V1)++u::(U2++(C++U1)))++v::(V2++B):=by simp
   have f3:(A++V1)++v::(U2++(C++(U1++(v::V2++B))))=((A++V1)++v::(U2++(C++U1)))++v::(V2++B):=by simp
   have T:((A++V1)++v::(U2++(C++U1)))++u::(V2++B)=A++((V1++ [v])++(U2++(C++((U1++ [u])++(V2++B))))):=by simp
   rw[W]at c;obtain⟨a,j,z⟩:=mJ c (i:=A.length+U1.length) (by rw[ad];omega);have k:=c;rw[f2]at k;obtain⟨a',p,w⟩:=mJ k (i:=A.length+(U1.length+(U2.length+1))+C.length+U1.length) (by simp only[ad,aH];omega);rw[j]at p;cases p;refine⟨⟨by omega,by omega⟩,a,j,v.1,w 0 _ rfl,v.2,w 1 _ rfl,⟨by omega,by omega⟩,a,j,u.1,z 0 _ rfl,u.2,z 1 _ rfl,⟨by omega,by omega⟩,a,j,?_⟩
   refine vX c v j (by rw[ad];omega) fun N o2 Z=>⟨⟨by omega,by omega⟩,a,j,?_⟩
   rw[f3]at o2;refine vX o2 u j (by first|omega|(simp;done)|(simp;omega)) fun h3 o3 X=>?_
   rw[T]at o3;rw[Bb (n:=U1.length+(U2.length+1)) (by omega) (by omega)];exact Y ((U1++ [u],U2),V1++ [v],V2) _ _ ⟨by simp,by simp,by simp,by simp[L],o3,(H.trans Z fun b y=>.inl y).trans X fun b y=>.inl y⟩ (by simp)
 ·simp only[ad]at F
  have P:U2= []:=aO.1 (by omega);have N:V2= []:=aO.1 (by rw[P,bL]at f;omega);subst P N;simp only[bB,dE]at c R;exact R m c H
theorem PK{M:Nat→Prop}{h:af}{s:SliceV}{A U V B:List (Pr)}(S:OwnS fe 2 ay M h s (A++(U++(V++B))))(Q:s.len≤1000000000)(W:0<U.length)(T:0<V.length){a m b:Nat}(Z:a=A.length)(hm:m=A.length+U.length)(q:b=A.length+U.length+V.length){w:Value}{K:Unit→af→Prop}
  (hk:∀u,OwnS fe 2 ay M u s (A++(V++(U++B)))→Upd M h u→K () u):HC PG gQ [.slice s.a s.len s.cap,.int .i64 a,.int .i64 m,.int .i64 b,w] [] K h:=by
 subst Z hm q;refine qv s A.length (A.length+U.length:Nat) (A.length+U.length+V.length:Nat) w ?_;unfold kL;have v:=S.len;simp only[ad]at v;have F:IntKind.wrap .i64 (((A.length+U.length:Nat):Int)-(A.length:Int))=(U.length:Int):=by rw[jj (by omega)];omega
 have E:IntKind.wrap .i64 (((A.length+U.length+V.length:Nat):Int)-((A.length+U.length:Nat):Int))=(V.length:Int):=by rw[jj (by omega)];omega
 rw[F,E];refine LoopP.ghost (fun(g:(List (Pr)×List (Pr))×List (Pr)×List (Pr)) (t:Int×Int) u=>t.1=(g.1.2.length:Int)∧t.2=(g.2.1.length:Int)∧0<g.1.2.length∧0<g.2.1.length∧A.length+U.length=g.1.1.length+g.1.2.length∧g.1.1++(g.2.1++(g.1.2++g.2.2))=A++(V++(U++B))∧OwnS fe 2 ay M u s (g.1.1++(g.1.2++(g.2.1++g.2.2)))∧Upd M h u) (fun g=>g.1.2.length+g.2.1.length) ((A,U),V,B)
  ⟨rfl,rfl,W,T,rfl,rfl,S,Upd.refl _ _⟩ ?_
 rintro I ⟨⟨A',U'⟩,V',i⟩ ⟨ti,tj⟩ u ⟨F,E,P,O,o,f,c,G⟩ R;simp only at F E P O o f c;subst F E;have d:=c.len;simp only[ad]at d;have H:((A.length+U.length:Nat):Int)=((A'.length+U'.length:Nat):Int):=by omega
 rw[H];have ew:IntKind.wrap .i64 (((A'.length+U'.length:Nat):Int)-(U'.length:Int))=(A'.length:Int):=by rw[jj (by omega)];omega
 simp only;rw[ew];refine CondP.intro (fun k=>?_) fun D=>?_
 ·have k:(U'.length:Int)≠(V'.length:Int):=by simpa using k
  refine aM (fun z=>?_) fun X=>?_
  ·
   have z:V'.length<U'.length:=by omega
   obtain⟨U1,U2,rfl,j⟩:∃U1 U2,U'=U1++U2∧U1.length=V'.length:=⟨U'.take V'.length,U'.drop V'.length,(aS ..).symm,by rw[aP];omega⟩
   simp only[ad]at z d o k ew;have y:A'++((U1++U2)++(V'++i))=A'++(U1++(U2++(V'++i))):=by simp
   have Y:A'++(V'++(U2++(U1++i)))=(A'++V')++(U2++(U1++i)):=by simp
   rw[y]at c;refine vW c Q j rfl (b:=A'.length+(U1++U2).length) (by simp only[ad];omega) (n:=V'.length) j.symm fun J o2 C=>?_
   rw[Y]at o2;have p:IntKind.wrap .i64 (((U1++U2).length:Int)-(V'.length:Int))=(U2.length:Int):=by rw[ad,jj (by omega)];omega
   rw[p];refine R ((A'++V',U2),U1,i) _ _ ⟨rfl,by simp only;omega,by simp only;omega,by simp only;omega,by simp only[ad];omega,?_,o2,G.trans C fun b q=>.inl q⟩ (by simp only[ad];omega)
   rw[←f];simp
  ·have N:U'.length<V'.length:=by omega
   obtain⟨V1,V2,rfl,j⟩:∃V1 V2,V'=V1++V2∧V2.length=U'.length:=⟨V'.take (V'.length-U'.length),V'.drop (V'.length-U'.length),(aS ..).symm,by rw[aZ];omega⟩
   simp only[ad]at N d k;have p:IntKind.wrap .i64 ((IntKind.wrap .i64 (((A'.length+U'.length:Nat):Int)+((V1++V2).length:Int)))-(U'.length:Int))=((A'.length+U'.length+V1.length:Nat):Int):=by
    rw[ad,jj (x:=((A'.length+U'.length:Nat):Int)+((V1.length+V2.length:Nat):Int)) (by omega),jj (by omega)];omega
   rw[p];have y:A'++(U'++((V1++V2)++i))=A'++(U'++(V1++(V2++i))):=by simp
   rw[y]at c;refine vW c Q j.symm rfl rfl rfl fun J o2 C=>?_
   have L:IntKind.wrap .i64 (((V1++V2).length:Int)-(U'.length:Int))=(V1.length:Int):=by rw[ad,jj (by omega)];omega
   rw[L];refine R ((A',V2),V1,U'++i) _ _ ⟨by simp only;omega,rfl,by simp only;omega,by simp only;omega,by simp only;omega,?_,o2,G.trans C fun b q=>.inl q⟩ (by simp only[ad];omega)
   rw[←f];simp
 ·have D:(U'.length:Int)=(V'.length:Int):=by simpa using D
  have y:A'++(U'++(V'++i))=A'++(U'++([]++(V'++i))):=by simp
  rw[y]at c;refine vW c Q (by omega) rfl (b:=A'.length+U'.length) (by simp) rfl fun J o2 C=>?_
  rw[dE,f]at o2;exact hk J o2 (G.trans C fun b q=>.inl q)
theorem Fi{lt:Pr→Pr→Bool}(w:WO lt){M:Nat→Prop}{Iv:af→Prop}{v:Value}(hc:Cmp lt fe M Iv v){h:af}{s:SliceV}{A S B:List (Pr)}(ho:OwnS fe 2 ay M h s (A++(S++B)))(hi:Iv h)(hn:s.len≤1000000000){a b:Nat}(c:a=A.length)(P:b=A.length+S.length){K:Unit→af→Prop}
  (hk:∀u R,OwnS fe 2 ay M u s (A++(R++B))→St lt S R→Upd M h u→K () u):HC PG eu [.slice s.a s.len s.cap,.int .i64 a,.int .i64 b,v] [] K h:=by
 subst c P;refine mV s A.length (A.length+S.length:Nat) v ?_;unfold iI bH cS bo oZ yH jm ph;have d:=ho.len;simp only[ad]at d;have ea:IntKind.wrap .i64 ((A.length:Int)+1)=((A.length+1:Nat):Int):=by rw[jj (by omega)];omega
 rw[ea];refine LoopP.ghost (fun(g:List (Pr)×List (Pr)×List (Pr)) (t:Int) u=>t=((A.length+max 1 g.1.length:Nat):Int)∧S=g.1++g.2.2∧(g.1= []→g.2.2= [])∧St lt g.1 g.2.1∧OwnS fe 2 ay M u s (A++(g.2.1++(g.2.2++B)))∧Upd M h u) (fun g=>g.2.2.length) (S.take 1,S.take 1,S.drop 1)
  ⟨?_,(aS ..).symm,fun e=>?_,⟨Eqf.rfl _,?_⟩,by rw[←az (S.take 1),aS];exact ho,Upd.refl _ _⟩ ?_
 ·simp only[aP];omega
 ·have:=congrArg List.length e
  simp only[aP,bL]at this;exact aO.1 (by simp only[aZ];omega)
 ·match S with
  | []=>exact Srt.nil
  |x::S=>exact Srt.one x
 rintro I ⟨S1,W,T⟩ t u ⟨Q,J,m,f,p,hu⟩ hI;simp only at Q J m f p;subst Q J;simp only[ad]at d;have hR1:=f.eqf.len;refine aM (fun C=>?_) fun hge=>?_
 ·simp only[ad]at C
  have Y:S1≠[]:=fun e=>by
   have:=m e;subst e;subst this;simp only[bL]at C;omega
  have hS1l:0<S1.length:=List.length_pos_iff.2 Y;match T with
  | []=>simp only[bL]at C;omega
  |x::T=>
   have N:A.length+max 1 S1.length=A.length+S1.length:=by omega
   rw[N];refine LoopP.ghost (fun(g:List (Pr)×List (Pr)) (t:Int) X=>t=((A.length+g.1.length:Nat):Int)∧W=g.1++g.2∧(∀y∈g.2,lt x y=true)∧OwnS fe 2 ay M X s (A++(g.1++(x::(g.2++(T++B)))))∧Upd M h X) (fun g=>g.1.length) (W,[])
    ⟨by simp only;omega,by simp,fun y n=>(by cases n),by simpa using p,hu⟩ ?_
   rintro I2 ⟨L,G⟩ t2 X ⟨Q,J,hG,k,D⟩ hI2;simp only at Q J hG k;subst Q J;simp only[ad]at hR1;simp only[aH]at d;refine Join.intro (fun t h3=>Upd M h h3∧OwnS fe 2 ay M h3 s (A++(L++(x::(G++(T++B)))))∧(t=true→∃L' y,L=L'++ [y]∧lt x y=true)∧(t=false→∀y∈L,lt x y=false)) (fun Rj O=>?_) ?_
   ·refine aM (fun Z=>?_) fun hle=>?_
    ·rcases Mg L with rfl|⟨L',y,rfl⟩
     ·simp only[bL]at Z;omega
     have o:(L'++ [y]).length=L'.length+1:=by simp
     have ew:IntKind.wrap .i64 (((A.length+(L'++ [y]).length:Nat):Int)-1)=((A.length+L'.length:Nat):Int):=by rw[o,jj (by omega)];omega
     rw[ew];have F:A++((L'++ [y])++(x::(G++(T++B))))=(A++L')++y::(x::(G++(T++B))):=by simp
     have f2:A++((L'++ [y])++(x::(G++(T++B))))=(A++(L'++ [y]))++x::(G++(T++B)):=by simp
     have o3:=k;have E:=k;rw[F]at o3;rw[f2]at E;obtain⟨a,c,n⟩:=mJ o3 (i:=A.length+L'.length) (by first|omega|(simp;done)|(simp;omega))
     obtain⟨a',j,hx⟩:=mJ E (i:=A.length+(L'++ [y]).length) (by first|omega|(simp;done)|(simp;omega))
     rw[c]at j;cases j;refine⟨⟨by omega,by omega⟩,a,c,x.1,hx 0 _ rfl,x.2,hx 1 _ rfl,⟨by omega,by omega⟩,a,c,y.1,n 0 _ rfl,y.2,n 1 _ rfl,?_⟩
     refine hc.call x y (hc.step D hi) fun h5 e V he=>?_
     rw[he];have ho5:=k.upd V fun _ _ h=>h
     refine O _ _ ⟨D.tr V.wide,ho5,fun h=>⟨L',y,rfl,h⟩,fun h z hz=>?_⟩
     have hs:=f.srt.left;rcases List.mem_append.1 hz with hz|hz
     ·exact w.ntr x y z h (hs.cross z hz y (au.2 rfl))
     ·rw[au.1 hz];exact h
    ·have hL:L= []:=aO.1 (by omega)
     exact O _ _ ⟨D,k,fun h=>(by cases h),fun _ y n=>(by rw[hL]at n;cases n)⟩
   ·rintro t3 h3 ⟨H,q,ht,hf⟩
    cases t3 with
    |true=>
     obtain⟨L',y,rfl,hxy⟩:=ht rfl;have o:(L'++ [y]).length=L'.length+1:=by simp
     refine aA.2 ?_;have ew:IntKind.wrap .i64 (((A.length+(L'++ [y]).length:Nat):Int)-1)=((A.length+L'.length:Nat):Int):=by rw[o,jj (by omega)];omega
     rw[ew];have F:A++((L'++ [y])++(x::(G++(T++B))))=(A++L')++y::(x::(G++(T++B))):=by simp
     have f2:(A++L')++y::(x::(G++(T++B)))=(A++(L'++ [y]))++x::(G++(T++B)):=by simp
     have f3:(A++(L'++ [y]))++y::(G++(T++B))=(A++L')++y::(y::(G++(T++B))):=by simp
     have f4:(A++L')++x::(y::(G++(T++B)))=A++(L'++(x::((y::G)++(T++B)))):=by simp
     rw[F]at q;have E:=q;rw[f2]at E;obtain⟨a,c,n⟩:=mJ q (i:=A.length+L'.length) (by first|omega|(simp;done)|(simp;omega))
     obtain⟨a',j,hx⟩:=mJ E (i:=A.length+(L'++ [y]).length) (by first|omega|(simp;done)|(simp;omega))
     rw[c]at j;cases j;refine⟨⟨by omega,by omega⟩,a,c,y.1,n 0 _ rfl,y.2,n 1 _ rfl,⟨by omega,by omega⟩,a,c,x.1,hx 0 _ rfl,x.2,hx 1 _ rfl,⟨by omega,by omega⟩,a,c,?_⟩
     refine vX E y c (by first|omega|(simp;done)|(simp;omega)) fun h5 o5 V=>⟨⟨by omega,by omega⟩,a,c,?_⟩
     rw[f3]at o5;refine vX o5 x c (by first|omega|(simp;done)|(simp;omega)) fun h6 o6 k6=>?_
     rw[f4]at o6;refine hI2 (L',y::G) _ _ ⟨rfl,by simp,fun z hz=>?_,o6,(H.trans V fun b P=>.inl P).trans k6 fun b P=>.inl P⟩ (by simp only[o];omega)
     rcases aB.1 hz with rfl|hz
     ·exact hxy
     ·exact hG z hz
    |false=>
     refine aj.2 ?_;have ew:IntKind.wrap .i64 (((A.length+S1.length:Nat):Int)+1)=((A.length+max 1 (S1.length+1):Nat):Int):=by rw[jj (by omega)];omega
     rw[ew];refine hI (S1++ [x],L++x::G,T) _ _ ⟨by simp,by simp,fun e=>(by simp at e),Vi w f (hf rfl) hG,?_,H⟩ (by simp)
     have F:A++((L++x::G)++(T++B))=A++(L++(x::(G++(T++B)))):=by simp
     rw[F];exact q
 ·simp only[ad]at hge
  have hT:T= []:=by
   rcases fq S1.length with h0|h0
   ·exact m (aO.1 h0)
   ·exact aO.1 (by omega)
  subst hT;rw[dE]at p;rw[bB]at hk;exact hk u W p f hu
theorem Ct{lt:Pr→Pr→Bool}(w:WO lt){M:Nat→Prop}{Iv:af→Prop}{cmp:Value}(hc:Cmp lt fe M Iv cmp){s:SliceV}(hn:s.len≤1000000000):∀(n:Nat) {h:af} {A U V B:List (Pr)},U.length+V.length≤n→OwnS fe 2 ay M h s (A++(U++(V++B)))→Iv h→0<U.length→0<V.length→Srt lt U→Srt lt V→∀{a m b:Nat},a=A.length→m=A.length+U.length→b=A.length+U.length+V.length→∀{K:Unit→af→Prop},
  (∀W R,OwnS fe 2 ay M W s (A++(R++B))→St lt (U++V) R→Upd M h W→K () W)→HC PG dg [.slice s.a s.len s.cap,.int .i64 a,.int .i64 m,.int .i64 b,cmp] [] K h:=by
 intro n;induction n with
 |zero=>intro h A U V B hl _ _ hU;omega
 |succ n ih=>
  intro h A U V B hl ho hi hU hV sU sV a m b ha hm O K hk;refine pG s a m b cmp ?_;unfold jW bH cS bo oZ yH jm ph;have z:=ho.len;simp only[ad]at z;have e1:IntKind.wrap .i64 ((m:Int)-(a:Int))=(U.length:Int):=by rw[jj (by omega)];omega
  have e2:IntKind.wrap .i64 ((b:Int)-(m:Int))=(V.length:Int):=by rw[jj (by omega)];omega
  rw[e1,e2];refine CondP.intro (fun F=>?_) fun hmore=>?_
  ·have F:U.length=1:=by have:=eq_of_beq F;omega
   match U,F with
   | [u],_=>
   simp only[aF]at z hm O;refine LoopP.ghost (fun(g:Nat×Nat) (t:Int×Int) W=>t.1=(g.1:Int)∧t.2=(g.2:Int)∧m≤g.1∧g.1≤g.2∧g.2≤b∧(∀q x,V[q]? =some x→m+q<g.1→lt x u=true)∧(∀q x,V[q]? =some x→g.2≤m+q→lt x u=false)∧OwnS fe 2 ay M W s (A++([u]++(V++B)))∧Upd M h W) (fun g=>g.2-g.1) (m,b)
    ⟨rfl,rfl,ao _,by simp only;omega,ao _,fun q x D h=>(by simp only at h;omega),fun q x D h=>(by have:=(aG.1 D).1;simp only at h;omega),ho,Upd.refl _ _⟩ ?_
   rintro I ⟨i,j⟩ ⟨ti,tj⟩ W ⟨e1,e2,hmi,J,hjb,N,H,G,hu⟩ hI;simp only at e1 e2 hmi J hjb N H;subst e1 e2;refine aM (fun S=>?_) fun hge=>?_
   ·have S:i<j:=by have:(i:Int)<(j:Int):=S;omega
    refine⟨by decide,?_⟩;simp only[Bd];rw[Gv (by omega)];have hk1:(i+j)/2-m<V.length:=by omega
    have hk0:(i+j)/2=A.length+1+((i+j)/2-m):=by omega
    obtain⟨X,f,hx⟩:=zU G (i:=(i+j)/2) (x:=V[(i+j)/2-m]) (VZ (U:= [u]) (k:=(i+j)/2-m) (by simp only[aF];omega) (ag hk1));obtain⟨a2,C,hy⟩:=mJ (P:=A) (x:=u) (Q:=V++B) G ha;rw[f]at C;cases C;have hVk:V[(i+j)/2-m]? =some V[(i+j)/2-m]:=ag hk1;generalize V[(i+j)/2-m]=x at hx hVk;refine⟨⟨by omega,by omega⟩,X,f,x.1,hx 0 _ rfl,x.2,hx 1 _ rfl,⟨by omega,by omega⟩,X,f,u.1,hy 0 _ rfl,u.2,hy 1 _ rfl,?_⟩
    refine hc.call x u (hc.step hu hi) fun Y e k5 he=>?_
    rw[he];have ho5:=G.upd k5 fun _ _ h=>h
    have Z:=hu.tr k5.wide;cases hxu:lt x u with
    |true=>
     refine aA.2 ?_;have ew:IntKind.wrap .i64 ((((i+j)/2:Nat):Int)+1)=(((i+j)/2+1:Nat):Int):=by rw[jj (by omega)];omega
     rw[ew];refine hI ((i+j)/2+1,j) _ _ ⟨rfl,rfl,by simp only;omega,by simp only;omega,hjb,fun q y D hqi=>?_,H,ho5,Z⟩ (by simp only;omega)
     have hle:=sF w sV (i:=q) (j:=(i+j)/2-m) (by simp only at hqi;omega) D hVk;cases hyu:lt y u with
     |true=>rfl
     |false=>rw[w.ntr _ _ _ hle hyu]at hxu;cases hxu
    |false=>
     refine aj.2 ?_;refine hI (i,(i+j)/2) _ _ ⟨rfl,rfl,hmi,by simp only;omega,by simp only;omega,N,fun q y D hqi=>?_,ho5,Z⟩ (by simp only;omega)
     have hle:=sF w sV (i:=(i+j)/2-m) (j:=q) (by simp only at hqi;omega) hVk D;exact w.ntr _ _ _ hle hxu
   ·have J:i=j:=by have:¬(i:Int)<(j:Int):=hge;omega
    subst J;obtain⟨V1,V2,rfl,hV1⟩:∃V1 V2,V=V1++V2∧V1.length=i-m:=⟨V.take (i-m),V.drop (i-m),(aS ..).symm,by rw[aP];omega⟩
    simp only[ad]at z O;have lo1:∀x∈V1,lt x u=true:=fun x hx=>by
     obtain⟨q,D,e⟩:=bV hx;exact N q x (by rw[bK D,ag D,e]) (by omega)
    have hi1:∀x∈V2,lt x u=false:=fun x hx=>by
     obtain⟨q,D,e⟩:=bV hx;exact H (V1.length+q) x (by rw[bh (by omega),fG,ag D,e]) (by omega)
    have hst:=LF w sV lo1 hi1;have f0:A++([u]++((V1++V2)++B))=A++([]++(u::(V1++(V2++B)))):=by simp
    rw[f0]at G;have ew:IntKind.wrap .i64 ((i:Int)-1)=((A.length+V1.length:Nat):Int):=by rw[jj (by omega)];omega
    rw[ew];refine LoopP.ghost (fun(g:List (Pr)×List (Pr)) (t:Int) L=>t=((A.length+g.1.length:Nat):Int)∧V1=g.1++g.2∧OwnS fe 2 ay M L s (A++(g.1++(u::(g.2++(V2++B)))))∧Upd M h L) (fun g=>g.2.length) ([],V1)
     ⟨by simp[ha],rfl,G,hu⟩ ?_
    rintro I2 ⟨G1,E⟩ t2 L ⟨e1,e2,o,T⟩ hI2;simp only at e1 e2 o;subst e1 e2;simp only[ad]at z O ew⊢;refine aM (fun S=>?_) fun hge=>?_
    ·match E with
     | []=>simp only[bL]at S;omega
     |g::E=>
      simp only[aH]at z;have ew1:IntKind.wrap .i64 (((A.length+G1.length:Nat):Int)+1)=((A.length+G1.length+1:Nat):Int):=by rw[jj (by omega)];omega
      rw[ew1];have f1:A++(G1++(u::((g::E)++(V2++B))))=(A++G1)++u::(g::(E++(V2++B))):=by simp
      have f2:(A++G1)++u::(g::(E++(V2++B)))=(A++(G1++ [u]))++g::(E++(V2++B)):=by simp
      have f3:(A++G1)++g::(g::(E++(V2++B)))=(A++(G1++ [g]))++g::(E++(V2++B)):=by simp
      have f4:(A++(G1++ [g]))++u::(E++(V2++B))=A++((G1++ [g])++(u::(E++(V2++B)))):=by simp
      rw[f1]at o;have o3:=o;rw[f2]at o3;obtain⟨X,f,hy⟩:=mJ o3 (i:=A.length+G1.length+1) (by first|omega|(simp;done)|(simp;omega))
      obtain⟨a2,C,hx⟩:=mJ o (i:=A.length+G1.length) (by first|omega|(simp;done)|(simp;omega))
      rw[f]at C;cases C;refine⟨⟨by omega,by omega⟩,X,f,g.1,hy 0 _ rfl,g.2,hy 1 _ rfl,⟨by omega,by omega⟩,X,f,u.1,hx 0 _ rfl,u.2,hx 1 _ rfl,⟨by omega,by omega⟩,X,f,?_⟩
      refine vX o g f (by first|omega|(simp;done)|(simp;omega)) fun Y o5 k5=>⟨⟨by omega,by omega⟩,X,f,?_⟩
      rw[f3]at o5;refine vX o5 u f (by first|omega|(simp;done)|(simp;omega)) fun h6 o6 k6=>?_
      rw[f4]at o6;exact hI2 (G1++ [g],E) _ _ ⟨by simp;omega,by simp,o6,(T.trans k5 fun b O=>.inl O).trans k6 fun b O=>.inl O⟩ (by simp)
    ·have hG:E= []:=aO.1 (by omega)
     subst hG;simp only[bB,dE]at o hst hk;refine hk L (G1++u::V2) ?_ hst T;have f1:A++((G1++u::V2)++B)=A++(G1++(u::(V2++B))):=by simp
     rw[f1];exact o
  refine CondP.intro (fun F=>?_) fun hmore2=>?_
  ·have F:V.length=1:=by have:=eq_of_beq F;omega
   match V,F with
   | [v],_=>
   simp only[aF]at z O;refine LoopP.ghost (fun(g:Nat×Nat) (t:Int×Int) W=>t.1=(g.1:Int)∧t.2=(g.2:Int)∧a≤g.1∧g.1≤g.2∧g.2≤m∧(∀q x,U[q]? =some x→a+q<g.1→lt v x=false)∧(∀q x,U[q]? =some x→g.2≤a+q→lt v x=true)∧OwnS fe 2 ay M W s (A++(U++([v]++B)))∧Upd M h W) (fun g=>g.2-g.1) (a,m)
    ⟨rfl,rfl,ao _,by simp only;omega,ao _,fun q x D h=>(by simp only at h;omega),fun q x D h=>(by have:=(aG.1 D).1;simp only at h;omega),ho,Upd.refl _ _⟩ ?_
   rintro I ⟨i,j⟩ ⟨ti,tj⟩ W ⟨e1,e2,hmi,J,hjb,N,H,G,hu⟩ hI;simp only at e1 e2 hmi J hjb N H;subst e1 e2;refine aM (fun S=>?_) fun hge=>?_
   ·have S:i<j:=by have:(i:Int)<(j:Int):=S;omega
    refine⟨by decide,?_⟩;simp only[Bd];rw[Gv (by omega)];have hk1:(i+j)/2-a<U.length:=by omega
    obtain⟨X,f,hx⟩:=zU G (i:=(i+j)/2) (x:=U[(i+j)/2-a]) (Sj (k:=(i+j)/2-a) (by omega) (ag hk1));have f1:A++(U++([v]++B))=(A++U)++v::B:=by simp
    have o3:=G;rw[f1]at o3;obtain⟨a2,C,hy⟩:=mJ o3 (i:=m) (by first|omega|(simp;done)|(simp;omega))
    rw[f]at C;cases C;have hVk:U[(i+j)/2-a]? =some U[(i+j)/2-a]:=ag hk1;generalize U[(i+j)/2-a]=x at hx hVk;refine⟨⟨by omega,by omega⟩,X,f,v.1,hy 0 _ rfl,v.2,hy 1 _ rfl,⟨by omega,by omega⟩,X,f,x.1,hx 0 _ rfl,x.2,hx 1 _ rfl,?_⟩
    refine hc.call v x (hc.step hu hi) fun Y e k5 he=>?_
    rw[he];have ho5:=G.upd k5 fun _ _ h=>h
    have Z:=hu.tr k5.wide;cases hxu:lt v x with
    |false=>
     refine aA.2 ?_;have ew:IntKind.wrap .i64 ((((i+j)/2:Nat):Int)+1)=(((i+j)/2+1:Nat):Int):=by rw[jj (by omega)];omega
     rw[ew];refine hI ((i+j)/2+1,j) _ _ ⟨rfl,rfl,by simp only;omega,by simp only;omega,hjb,fun q y D hqi=>?_,H,ho5,Z⟩ (by simp only;omega)
     exact w.ntr _ _ _ hxu (sF w sU (i:=q) (j:=(i+j)/2-a) (by simp only at hqi;omega) D hVk)
    |true=>
     refine aj.2 ?_;refine hI (i,(i+j)/2) _ _ ⟨rfl,rfl,hmi,by simp only;omega,by simp only;omega,N,fun q y D hqi=>?_,ho5,Z⟩ (by simp only;omega)
     have hle:=sF w sU (i:=(i+j)/2-a) (j:=q) (by simp only at hqi;omega) hVk D;cases hvy:lt v y with
     |true=>rfl
     |false=>rw[w.ntr _ _ _ hvy hle]at hxu;cases hxu
   ·have J:i=j:=by have:¬(i:Int)<(j:Int):=hge;omega
    subst J;obtain⟨U1,U2,rfl,hU1⟩:∃U1 U2,U=U1++U2∧U1.length=i-a:=⟨U.take (i-a),U.drop (i-a),(aS ..).symm,by rw[aP];omega⟩
    simp only[ad]at z O hm;have lo1:∀x∈U1,lt v x=false:=fun x hx=>by
     obtain⟨q,D,e⟩:=bV hx;exact N q x (by rw[bK D,ag D,e]) (by omega)
    have hi1:∀x∈U2,lt v x=true:=fun x hx=>by
     obtain⟨q,D,e⟩:=bV hx;exact H (U1.length+q) x (by rw[bh (by omega),fG,ag D,e]) (by omega)
    have hst:=Nl w sU lo1 hi1;have f0:A++((U1++U2)++([v]++B))=A++(U1++(U2++(v::([]++B)))):=by simp
    rw[f0]at G;refine LoopP.ghost (fun(g:List (Pr)×List (Pr)) (t:Int) L=>t=((A.length+U1.length+g.1.length:Nat):Int)∧U2=g.1++g.2∧OwnS fe 2 ay M L s (A++(U1++(g.1++(v::(g.2++B)))))∧Upd M h L) (fun g=>g.1.length) (U2,[])
     ⟨by simp only;omega,by simp,G,hu⟩ ?_
    rintro I2 ⟨G1,E⟩ t2 L ⟨e1,e2,o,T⟩ hI2;simp only at e1 e2 o;subst e1 e2;simp only[ad]at z O hm⊢;refine aM (fun hgt=>?_) fun hle=>?_
    ·rcases Mg G1 with rfl|⟨G1',g,rfl⟩
     ·simp only[bL]at hgt;omega
     simp only[ad,aF]at z O hm hgt⊢;have ew1:IntKind.wrap .i64 (((A.length+U1.length+(G1'.length+1):Nat):Int)-1)=((A.length+U1.length+G1'.length:Nat):Int):=by rw[jj (by omega)];omega
     rw[ew1];have f1:A++(U1++((G1'++ [g])++(v::(E++B))))=(A++(U1++(G1'++ [g])))++v::(E++B):=by simp
     have f2:(A++(U1++(G1'++ [g])))++v::(E++B)=(A++(U1++G1'))++g::(v::(E++B)):=by simp
     have f3:(A++(U1++(G1'++ [g])))++g::(E++B)=(A++(U1++G1'))++g::(g::(E++B)):=by simp
     have f4:(A++(U1++G1'))++v::(g::(E++B))=A++(U1++(G1'++(v::((g::E)++B)))):=by simp
     rw[f1]at o;have o3:=o;rw[f2]at o3;obtain⟨X,f,hy⟩:=mJ o3 (i:=A.length+U1.length+G1'.length) (by first|omega|(simp;done)|(simp;omega))
     obtain⟨a2,C,hx⟩:=mJ o (i:=A.length+U1.length+(G1'.length+1)) (by first|omega|(simp;done)|(simp;omega))
     rw[f]at C;cases C;refine⟨⟨by omega,by omega⟩,X,f,g.1,hy 0 _ rfl,g.2,hy 1 _ rfl,⟨by omega,by omega⟩,X,f,v.1,hx 0 _ rfl,v.2,hx 1 _ rfl,⟨by omega,by omega⟩,X,f,?_⟩
     refine vX o g f (by first|omega|(simp;done)|(simp;omega)) fun Y o5 k5=>⟨⟨by omega,by omega⟩,X,f,?_⟩
     rw[f3]at o5;refine vX o5 v f (by first|omega|(simp;done)|(simp;omega)) fun h6 o6 k6=>?_
     rw[f4]at o6;exact hI2 (G1',g::E) _ _ ⟨rfl,by simp,o6,(T.trans k5 fun b O=>.inl O).trans k6 fun b O=>.inl O⟩ (by simp)
    ·have hG:G1= []:=aO.1 (by omega)
     subst hG;simp only[dE]at o hst hk;refine hk L (U1++v::E) ?_ hst T;have f1:A++((U1++v::E)++B)=A++(U1++(v::(E++B))):=by simp
     rw[f1];exact o
  have hU2:2≤U.length:=by
   have:(U.length:Int)≠1:=by simpa using hmore
   omega
  have hV2:2≤V.length:=by
   have:(V.length:Int)≠1:=by simpa using hmore2
   omega
  refine⟨by decide,?_⟩;simp only[Bd];rw[Gv (i:=a) (j:=b) (by omega)];obtain⟨d,hmid⟩:∃d,(a+b)/2=d:=⟨_,rfl⟩;rw[hmid];have em:IntKind.wrap .i64 ((d:Int)+(m:Int))=((d+m:Nat):Int):=by rw[jj (by omega)];omega
  rw[em];have ep:IntKind.wrap .i64 (((d+m:Nat):Int)-1)=((d+m-1:Nat):Int):=by rw[jj (by omega)];omega
  rw[ep];refine Join.intro (fun t W=>W=h∧∃s0 r0:Nat,t=((s0:Int),(r0:Int))∧a≤s0∧s0≤r0∧r0≤m∧r0≤d∧d+m≤b+s0∧(r0=d∨r0=m)∧(s0=a∨s0+b=d+m)) (fun Rj hRj=>?_) ?_
  ·refine aM (fun hgt=>?_) fun hle=>?_
   ·have es:IntKind.wrap .i64 (((d+m:Nat):Int)-(b:Int))=((d+m-b:Nat):Int):=by rw[jj (by omega)];omega
    rw[es];exact hRj _ _ ⟨rfl,_,_,rfl,by omega,by omega,by omega,by omega,by omega,by omega,by omega⟩
   ·exact hRj _ _ ⟨rfl,_,_,rfl,by omega,by omega,by omega,by omega,by omega,by omega,by omega⟩
  rintro t W ⟨rfl,s0,r0,rfl,hs0,hsr,hrm,hrd,hsb,hr0,hs00⟩;refine LoopP.ghost (fun(g:Nat×Nat) (t:Int×Int) L=>t.1=(g.1:Int)∧t.2=(g.2:Int)∧s0≤g.1∧g.1≤g.2∧g.2≤r0∧(∀c x y,s0≤c→c<g.1→U[c-a]? =some x→V[d-1-c]? =some y→lt y x=false)∧(∀c x y,g.2≤c→c<r0→U[c-a]? =some x→V[d-1-c]? =some y→lt y x=true)∧OwnS fe 2 ay M L s (A++(U++(V++B)))∧Upd M W L) (fun g=>g.2-g.1) (s0,r0)
   ⟨rfl,rfl,ao _,hsr,ao _,fun c x y h1 L=>(by simp only at L;omega),fun c x y h1 L=>(by simp only at h1;omega),ho,Upd.refl _ _⟩ ?_
  rintro I ⟨i,j⟩ ⟨ti,tj⟩ L ⟨e1,e2,hsi,J,hjr,N,H,o,T⟩ hI;simp only at e1 e2 hsi J hjr N H;subst e1 e2;refine aM (fun S=>?_) fun hge=>?_
  ·have S:i<j:=by have:(i:Int)<(j:Int):=S;omega
   refine⟨by decide,?_⟩;rw[Gv (i:=i) (j:=j) (by omega)];obtain⟨c,hcc⟩:∃c,(i+j)/2=c:=⟨_,rfl⟩;rw[hcc];have hci:i≤c:=by omega
   have hcj:c<j:=by omega
   have eq:IntKind.wrap .i64 (((d+m-1:Nat):Int)-(c:Int))=((d+m-1-c:Nat):Int):=by rw[jj (by omega)];omega
   rw[eq];have hk1:c-a<U.length:=by omega
   have hk2:d-1-c<V.length:=by omega
   obtain⟨X,f,hx⟩:=zU o (i:=c) (x:=U[c-a]) (Sj (k:=c-a) (by omega) (ag hk1));obtain⟨a2,C,hy⟩:=zU o (i:=d+m-1-c) (x:=V[d-1-c]) (VZ (k:=d-1-c) (by omega) (ag hk2));rw[f]at C;cases C;have hUc:U[c-a]? =some U[c-a]:=ag hk1;have hVc:V[d-1-c]? =some V[d-1-c]:=ag hk2;generalize U[c-a]=x at hx hUc
   generalize V[d-1-c]=y at hy hVc;refine⟨⟨by omega,by omega⟩,X,f,y.1,hy 0 _ rfl,y.2,hy 1 _ rfl,⟨by omega,by omega⟩,X,f,x.1,hx 0 _ rfl,x.2,hx 1 _ rfl,?_⟩
   refine hc.call y x (hc.step T hi) fun Y e k5 he=>?_
   rw[he];have ho5:=o.upd k5 fun _ _ h=>h
   have Z:=T.tr k5.wide;cases hyx:lt y x with
   |false=>
    refine aA.2 ?_;have ew:IntKind.wrap .i64 ((c:Int)+1)=((c+1:Nat):Int):=by rw[jj (by omega)];omega
    rw[ew];refine hI (c+1,j) _ _ ⟨rfl,rfl,by simp only;omega,by simp only;omega,hjr,fun c' x' y' h1 L hx' hy'=>?_,H,ho5,Z⟩ (by simp only;omega)
    simp only at L;have q1:=sF w sU (i:=c'-a) (j:=c-a) (by omega) hx' hUc;have q2:=sF w sV (i:=d-1-c) (j:=d-1-c') (by omega) hVc hy';exact w.ntr _ _ _ (w.ntr _ _ _ q2 hyx) q1
   |true=>
    refine aj.2 ?_;refine hI (i,c) _ _ ⟨rfl,rfl,hsi,hci,by simp only;omega,N,fun c' x' y' h1 L hx' hy'=>?_,ho5,Z⟩ (by simp only;omega)
    simp only at h1;have q1:=sF w sU (i:=c-a) (j:=c'-a) (by omega) hUc hx';have q2:=sF w sV (i:=d-1-c') (j:=d-1-c) (by omega) hy' hVc;cases hyx':lt y' x' with
    |true=>rfl
    |false=>rw[w.ntr _ _ _ (w.ntr _ _ _ q2 hyx') q1]at hyx;cases hyx
  have J:i=j:=by have:¬(i:Int)<(j:Int):=hge;omega
  subst J;have en:IntKind.wrap .i64 (((d+m:Nat):Int)-(i:Int))=((d+m-i:Nat):Int):=by rw[jj (by omega)];omega
  simp only;rw[en];obtain⟨U1,U2,eU,hU1⟩:∃U1 U2,U=U1++U2∧U1.length=i-a:=⟨U.take (i-a),U.drop (i-a),(aS ..).symm,by rw[aP];omega⟩
  obtain⟨V1,V2,eV,hV1⟩:∃V1 V2,V=V1++V2∧V1.length=d-i:=⟨V.take (d-i),V.drop (d-i),(aS ..).symm,by rw[aP];omega⟩
  have c1:∀v∈V1,∀u∈U2,lt v u=true:=fun v hv u hu=>by
   obtain⟨q,D,e⟩:=bV hv;obtain⟨p,hp,e'⟩:=bV hu;have hlU:U.length=U1.length+U2.length:=by rw[eU,ad]
   have n1:0<U2.length:=by omega
   have n2:d-1-i<V1.length:=by omega
   have gx:U[i-a]? =some (U2[0]'n1):=by rw[eU,bh (by omega),←hU1,gu,ag (by omega)]
   have gy:V[d-1-i]? =some (V1[d-1-i]'n2):=by rw[eV,bK (by omega),ag (by omega)]
   have hQ:=H i _ _ (ao _) (by omega) gx gy;have q1:=sF w sU (i:=i-a) (j:=i-a+p) (by omega) gx (by rw[eU,bh (by omega),←hU1,fG,ag hp,e']);have q2:=sF w sV (i:=q) (j:=d-1-i) (by omega) (by rw[eV,bK D,ag D,e]) gy;cases hvu:lt v u with
   |true=>rfl
   |false=>rw[w.ntr _ _ _ (w.ntr _ _ _ q2 hvu) q1]at hQ;cases hQ
  have c2:∀u∈U1,∀v∈V2,lt v u=false:=fun u hu v hv=>by
   obtain⟨p,hp,e'⟩:=bV hu;obtain⟨q,D,e⟩:=bV hv;have hlV:V.length=V1.length+V2.length:=by rw[eV,ad]
   have n1:i-1-a<U1.length:=by omega
   have n2:0<V2.length:=by omega
   have gx:U[i-1-a]? =some (U1[i-1-a]'n1):=by rw[eU,bK (by omega),ag (by omega)]
   have gy:V[d-1-(i-1)]? =some (V2[0]'n2):=by rw[eV,bh (by omega),show d-1-(i-1)-V1.length=0 by omega,ag (by omega)]
   have hQ:=N (i-1) _ _ (by omega) (by omega) gx gy;have q1:=sF w sU (i:=p) (j:=i-1-a) (by omega) (by rw[eU,bK hp,ag hp,e']) gx;have q2:=sF w sV (i:=d-i) (j:=d-i+q) (by omega) (by rw[eV,bh (by omega),hV1,gu,ag (by omega)]) (by rw[eV,bh (by omega),hV1,fG,ag D,e])
   have gy2:V[d-i]? =some (V2[0]'n2):=by rw[eV,bh (by omega),hV1,gu,ag (by omega)]
   exact w.ntr _ _ _ (w.ntr _ _ _ q2 hQ) q1
  subst eU eV;simp only[ad]at z hU hV hl hm O hU2 hV2;have sA1:=sU.left;have sA2:=sU.right;have sB1:=sV.left;have sB2:=sV.right;refine Join.intro (fun _ h3=>OwnS fe 2 ay M h3 s (A++(U1++(V1++(U2++(V2++B)))))∧Upd M W h3) (fun Rj hRj=>?_) ?_
  ·have f1:A++((U1++U2)++((V1++V2)++B))=(A++U1)++(U2++(V1++(V2++B))):=by simp
   have f2:(A++U1)++(V1++(U2++(V2++B)))=A++(U1++(V1++(U2++(V2++B)))):=by simp
   refine Join.intro (fun t h3=>h3=L∧(t=true↔0<U2.length∧0<V1.length)) (fun Rk hRk=>?_) ?_
   ·refine aM (fun h=>hRk _ _ ⟨rfl,?_⟩) fun h=>hRk _ _ ⟨rfl,⟨fun h=>(by cases h),fun h=>(by omega)⟩⟩
    rw[decide_eq_true_iff];constructor
    ·intro h;constructor<;>omega
    ·rintro⟨h1,L⟩;omega
   ·rintro t h3 ⟨rfl,ht⟩
    cases t with
    |true=>
     obtain⟨p1,p2⟩:=ht.1 rfl;rw[f1]at o;refine aA.2 (PK o hn p1 p2 (by rw[ad];omega) (by rw[ad];omega) (by rw[ad];omega) fun h4 o4 k4=>hRj _ _ ⟨?_,T.trans k4 fun b O=>.inl O⟩)
     rw[f2]at o4;exact o4
    |false=>
     have hz:U2= []∨V1= []:=by
      rcases fq U2.length with h|h
      ·exact .inl (aO.1 h)
      ·rcases fq V1.length with h3|h3
       ·exact .inr (aO.1 h3)
       ·have:=ht.2 ⟨h,h3⟩;cases this
     refine aj.2 (hRj _ _ ⟨?_,T⟩);rw[f1]at o;rw[←f2];rcases hz with rfl|rfl
     ·exact o
     ·exact o
  rintro _ h3 ⟨o3,k3⟩;refine Join.intro (fun _ h4=>∃R1,OwnS fe 2 ay M h4 s (A++(R1++(U2++(V2++B))))∧St lt (U1++V1) R1∧Upd M W h4) (fun Rj hRj=>?_) ?_
  ·refine Join.intro (fun t h4=>h4=h3∧(t=true↔0<U1.length∧0<V1.length)) (fun Rk hRk=>?_) ?_
   ·refine aM (fun h=>hRk _ _ ⟨rfl,?_⟩) fun h=>hRk _ _ ⟨rfl,⟨fun h=>(by cases h),fun h=>(by omega)⟩⟩
    rw[decide_eq_true_iff];constructor
    ·intro h;constructor<;>omega
    ·rintro⟨h1,L⟩;omega
   ·rintro t h4 ⟨rfl,ht⟩
    cases t with
    |true=>
     obtain⟨p1,p2⟩:=ht.1 rfl;refine aA.2 (ih (by omega) o3 (hc.step k3 hi) p1 p2 sA1 sB1 ha (by omega) (by omega) fun Y R1 o5 s5 k5=>hRj _ _ ⟨R1,o5,s5,k3.trans k5 fun b O=>.inl O⟩)
    |false=>
     refine aj.2 (hRj _ _ ⟨U1++V1,by simpa using o3,⟨Eqf.rfl _,?_⟩,k3⟩)
     rcases fq U1.length with h|h
     ·rw[aO.1 h];exact sB1
     ·rcases fq V1.length with Y|Y
      ·rw[aO.1 Y,bB];exact sA1
      ·have:=ht.2 ⟨h,Y⟩;cases this
  rintro _ h4 ⟨R1,o4,s1,k4⟩;have hR1:=s1.eqf.len;rw[ad]at hR1;have fin:∀{Y:af} {R2:List (Pr)},OwnS fe 2 ay M Y s (A++(R1++(R2++B)))→St lt (U2++V2) R2→Upd M W Y→K () Y:=fun{Y R2} o5 s2 k5=>by
   refine hk Y (R1++R2) ?_ (Td w sU sV c1 c2 s1 s2) k5;rw[az];exact o5
  refine Join.intro (fun t Y=>Y=h4∧(t=true↔0<U2.length∧0<V2.length)) (fun Rk hRk=>?_) ?_
  ·refine aM (fun h=>hRk _ _ ⟨rfl,?_⟩) fun h=>hRk _ _ ⟨rfl,⟨fun h=>(by cases h),fun h=>(by omega)⟩⟩
   rw[decide_eq_true_iff];constructor
   ·intro h;constructor<;>omega
   ·rintro⟨h1,L⟩;omega
  ·rintro t Y ⟨rfl,ht⟩
   have f1:A++(R1++(U2++(V2++B)))=(A++R1)++(U2++(V2++B)):=by simp
   cases t with
   |true=>
    obtain⟨p1,p2⟩:=ht.1 rfl;rw[f1]at o4;refine aA.2 (ih (by omega) o4 (hc.step k4 hi) p1 p2 sA2 sB2 (by rw[ad];omega) (by rw[ad];omega) (by rw[ad];omega) fun h6 R2 o6 s6 k6=>fin (R2:=R2) ?_ s6 (k4.trans k6 fun b O=>.inl O))
    rw[az]at o6;exact o6
   |false=>
    refine aj.2 (fin (R2:=U2++V2) (by simpa using o4) ⟨Eqf.rfl _,?_⟩ k4);rcases fq U2.length with h|h
    ·rw[aO.1 h];exact sB2
    ·rcases fq V2.length with h6|h6
     ·rw[aO.1 h6,bB];exact sA2
     ·have:=ht.2 ⟨h,h6⟩;cases this
theorem Px{lt:Pr→Pr→Bool}(w:WO lt){M:Nat→Prop}{Iv:af→Prop}{i:Value}(hc:Cmp lt fe M Iv i){h:af}{s:SliceV}{xs:List (Pr)}(ho:OwnS fe 2 ay M h s xs)(hi:Iv h)(hn:xs.length≤100000000){K:Unit→af→Prop}
  (hk:∀c R,OwnS fe 2 ay M c s R→St lt xs R→Upd M h c→K () c):HC PG du [.slice s.a s.len s.cap,i] [] K h:=by
 refine kW s i ?_;unfold gv;refine qu s (s.len:Int) i ?_;unfold kK;have m:=ho.len;have k:s.len≤1000000000:=by omega
 refine LoopP.ghost (fun(g:List (Pr)×List (Pr)×List (Pr)) (t:Int×Int) c=>t.1=(g.2.1.length:Int)∧t.2=((g.2.1.length+20:Nat):Int)∧xs=g.1++g.2.2∧Eqf lt g.1 g.2.1∧Full lt 20 g.2.1∧OwnS fe 2 ay M c s (g.2.1++g.2.2)∧Upd M h c) (fun g=>g.2.2.length) ([],[],xs)
  ⟨rfl,rfl,rfl,Eqf.rfl _,Full.nil,ho,Upd.refl _ _⟩ ?_
 rintro I ⟨X,D,T⟩ ⟨ta,tb⟩ h1 ⟨n,F,C,f,o,o1,k1⟩ hI;simp only at n F C f o o1;subst n F C;have hXD:=f.len;simp only[ad]at m hn;refine aM (fun hle=>?_) fun H=>?_
 ·obtain⟨S,T',rfl,hS⟩:∃S T',T=S++T'∧S.length=20:=⟨T.take 20,T.drop 20,(aS ..).symm,by rw[aP];omega⟩
  refine Fi w hc o1 (hc.step k1 hi) k rfl (b:=D.length+20) (by omega) fun h2 R o2 s2 J=>?_
  have B:=s2.eqf.len;simp only[ad]at m hn;have ew:IntKind.wrap .i64 (((D.length+20:Nat):Int)+20)=(((D++R).length+20:Nat):Int):=by rw[ad,jj (by omega)];omega
  rw[ew];refine hI (X++S,D++R,T') _ _ ⟨by simp only[ad];omega,rfl,by simp,f.app s2.eqf,o.app (by omega) s2.srt,by rw[az];exact o2,k1.trans J fun b u=>.inl u⟩ (by simp only[ad];omega)
 have Q:D++T=D++(T++ []):=by simp
 rw[Q]at o1;refine Fi w hc o1 (hc.step k1 hi) k rfl (b:=s.len) (by omega) fun h2 R o2 s2 J=>?_
 have B:=s2.eqf.len;rw[bB]at o2;have y:Eqf lt (X++T) (D++R):=f.app s2.eqf;have E:Runs lt 20 (D++R):=o R (.last R (by omega) s2.srt);have J:Upd M h h2:=k1.trans J fun b u=>.inl u
 generalize D++R=ys at o2 y E;generalize X++T=zs at y hk;have d:s.len=ys.length:=o2.len;clear hI f o o1 Q H B;refine LoopP.ghost (fun(g:Nat×List (Pr)) (t:Int) c=>t=(g.1:Int)∧0<g.1∧g.1≤200000000∧Runs lt g.1 g.2∧Eqf lt zs g.2∧OwnS fe 2 ay M c s g.2∧Upd M h c) (fun g=>s.len-g.1) (20,ys)
  ⟨rfl,by simp,by simp,E,y,o2,J⟩ ?_
 rintro I2 ⟨a,ys⟩ t h3 ⟨n,W,hb1,hr,q,o3,k3⟩ hI2;simp only at n W hb1 hr q o3;subst n;have d:s.len=ys.length:=o3.len;refine aM (fun Z=>?_) fun hge=>?_
 ·have Z:a<s.len:=by omega
  have e0:IntKind.wrap .i64 (2*(a:Int))=((2*a:Nat):Int):=by rw[jj (by omega)];omega
  rw[e0];refine LoopP.ghost (fun(g:List (Pr)×List (Pr)×List (Pr)) (t:Int×Int) c=>t.1=(g.2.1.length:Int)∧t.2=((g.2.1.length+2*a:Nat):Int)∧ys=g.1++g.2.2∧Eqf lt g.1 g.2.1∧Full lt (2*a) g.2.1∧Runs lt a g.2.2∧OwnS fe 2 ay M c s (g.2.1++g.2.2)∧Upd M h c) (fun g=>g.2.2.length) ([],[],ys)
   ⟨rfl,by simp,rfl,Eqf.rfl _,Full.nil,hr,o3,k3⟩ ?_
  rintro I3 ⟨Y,D,T⟩ ⟨ta,tb⟩ h4 ⟨n,F,C,f,o,j,P,O⟩ hI3;simp only at n F C f o j P;subst n F C;have hYD:=f.len;simp only[ad]at d;have ea:IntKind.wrap .i64 ((D.length:Int)+(a:Int))=((D.length+a:Nat):Int):=by rw[jj (by omega)];omega
  simp only;rw[ea];refine aM (fun hle=>?_) fun H=>?_
  ·obtain⟨B1,T1,rfl,hB1,p,z⟩:=j.split (by omega)
   simp only[ad]at d;obtain⟨B2,T2,rfl,hB2,V,hr2⟩:=z.split (by omega);simp only[ad]at d;refine Ct w hc k (B1.length+B2.length) (ao _) P (hc.step O hi) (by omega) (by omega) p V rfl (by omega) (by omega) fun N R A v G=>?_
   have B:=v.eqf.len;rw[ad]at B;have ew:IntKind.wrap .i64 (((D.length+2*a:Nat):Int)+((2*a:Nat):Int))=(((D++R).length+2*a:Nat):Int):=by rw[ad,jj (by omega)];omega
   rw[ew];refine hI3 (Y++(B1++B2),D++R,T2) _ _ ⟨by simp only[ad];omega,rfl,by simp,f.app v.eqf,o.app (by omega) v.srt,hr2,by rw[az];exact A,O.trans G fun b u=>.inl u⟩ (by simp only[ad];omega)
  ·refine Join.intro (fun _ N=>∃R,Eqf lt T R∧Runs lt (2*a) R∧OwnS fe 2 ay M N s (D++R)∧Upd M h N) (fun Rj L=>?_) ?_
   ·refine aM (fun hmn=>?_) fun hmn=>?_
    ·obtain⟨B1,T1,rfl,hB1,p,z⟩:=j.split (by omega)
     simp only[ad]at d;have Q:D++(B1++T1)=D++(B1++(T1++ [])):=by simp
     rw[Q]at P;refine Ct w hc k (B1.length+T1.length) (ao _) P (hc.step O hi) (by omega) (by omega) p (z.short (by omega)) rfl (by omega) (by omega) fun N R A v G=>?_
     have B:=v.eqf.len;rw[ad]at B;rw[bB]at A;exact L _ _ ⟨R,v.eqf,.last R (by omega) v.srt,A,O.trans G fun b u=>.inl u⟩
    ·exact L _ _ ⟨T,Eqf.rfl _,.last T (by omega) (j.short (by omega)),P,O⟩
   ·rintro _ N ⟨R,q5,r5,A,G⟩
    have ew:IntKind.wrap .i64 ((a:Int)*2)=((2*a:Nat):Int):=by rw[jj (by omega)];omega
    rw[ew];exact hI2 (2*a,D++R) _ _ ⟨rfl,by simp only;omega,by simp only;omega,o R r5,q.tr (f.app q5),A,G⟩ (by simp only;omega)
 ·exact hk h3 ys o3 ⟨q,hr.short (by omega)⟩ k3
end Go.Proofs
namespace Go.Proofs
open Go Go.Lift
def StP(N:Nat):Prop:=∀{lt:Pr→Pr→Bool},WO lt→∀{M:Nat→Prop} {Iv:af→Prop} {cmp:Value},Cmp lt fe M Iv cmp→∀{h:af} {s:SliceV} {xs:List Pr},OwnS fe 2 ay M h s xs→Iv h→xs.length≤N→∀{K:Unit→af→Prop},
 (∀h' R,OwnS fe 2 ay M h' s R→St lt xs R→Upd M h h'→K () h')→HC PG du [.slice s.a s.len s.cap,cmp] [] K h
theorem stP:StP 100000000:=fun w _ _ _ hc _ _ _ c hi b _ a=>Px w hc c hi b a
end Go.Proofs
namespace Go.Proofs
open Go Go.Lift
def Yf(a b:Pr):Bool:=decide (kl a.1 b.1)
theorem ZH:WO Yf:=by
 refine⟨fun a=>decide_eq_false (cM _),fun a b h=>decide_eq_false fun k=>cM _ (jo (of_decide_eq_true h) k),fun a b c h k=>decide_eq_false fun d=>?_⟩
 have h:=of_decide_eq_false h;have k:=of_decide_eq_false k;by_cases e:b.1=c.1
 ·rw[←e]at d;exact h d
 ·have f:=sH k e
  exact h (jo d f)
theorem YA(x a:Pr):Pe Yf x a=decide (a.1=x.1):=by
 unfold Pe Yf;by_cases e:a.1=x.1
 ·rw[decide_eq_true e,e,decide_eq_false (cM _)];rfl
 ·rw[decide_eq_false e]
  by_cases h:kl a.1 x.1
  ·rw[decide_eq_true h];rfl
  ·rw[decide_eq_false h,decide_eq_true (sH h e)];rfl
def kT(l:List Pr)(k:ByteArray):Option Pr:=(l.filter fun q=>decide (q.1=k)).getLast?
theorem tZ(q:Pr)(l:List Pr)(k:ByteArray):kT (q::l) k=if q.1=k then some ((kT l k).getD q)else kT l k:=by
 unfold kT;rw[List.filter_cons];by_cases h:q.1=k
 ·rw[if_pos (decide_eq_true h),if_pos h,List.getLast?_cons]
 ·rw[if_neg (by simpa using h),if_neg h]
theorem TQ{l:List Pr}{k:ByteArray}{p:Pr}(h:kT l k=some p):p.1=k:=by
 unfold kT at h;have:=iT h;exact of_decide_eq_true (eP.1 this).2
theorem KF{l:List Pr}{k:ByteArray}{p:Pr}(h:kT l k=some p):p∈l:=by
 unfold kT at h;exact(eP.1 (iT h)).1
theorem Qd{l:List Pr}{k:ByteArray}(h:∀q∈l,q.1≠k):kT l k=none:=by
 unfold kT;rw[List.filter_eq_nil_iff.2 fun q a=>by simpa using h q a];rfl
theorem V8{l l':List Pr}(h:Eqf Yf l l')(k:ByteArray):kT l' k=kT l k:=by
 unfold kT;have:=h.flt (k,k);have e:∀m:List Pr,m.filter (Pe Yf (k,k))=m.filter fun q=>decide (q.1=k):=fun m=>List.filter_congr fun q _=>YA (k,k) q
 rw[e,e]at this;rw[this]
def Nm(l:List Pr):List Pr:=l.foldl (fun acc p=>iV p acc) []
theorem El:∀(l:List Pr) {acc:List Pr},cA acc→cA (l.foldl (fun acc p=>iV p acc) acc)∧∀p,p∈l.foldl (fun acc p=>iV p acc) acc↔kT l p.1=some p∨(kT l p.1=none∧p∈acc)
 | [],acc,hr=>⟨hr,fun p=>by simp[kT]⟩
 |q::l,acc,hr=>by
  obtain⟨d,b⟩:=El l (zR q hr);refine⟨d,fun p=>?_⟩
  rw[List.foldl_cons,b p,tZ,rV hr];by_cases e:q.1=p.1
  ·rw[if_pos e]
   cases hl:kT l p.1 with
   |none=>
    simp only[Option.getD_none,Option.some.injEq,reduceCtorEq,false_or,false_and,or_false];constructor
    ·rintro⟨_,rfl|⟨_,h⟩⟩
     ·rfl
     ·exact absurd e.symm h
    ·rintro rfl;exact⟨trivial,.inl rfl⟩
   |some r=>simp
  ·rw[if_neg e]
   constructor
   ·rintro(h|⟨h,rfl|⟨a,_⟩⟩)
    ·exact .inl h
    ·exact absurd rfl e
    ·exact .inr ⟨h,a⟩
   ·rintro(h|⟨h,a⟩)
    ·exact .inl h
    ·exact .inr ⟨h,.inr ⟨a,fun c=>e c.symm⟩⟩
theorem Ka(l:List Pr):cA (Nm l):=(El l fc).1
theorem R8{l:List Pr}{p:Pr}:p∈Nm l↔kT l p.1=some p:=by
 have:=(El l (acc:= []) fc).2 p;unfold Nm;rw[this];simp
def mE:List Pr→List Pr
 | []=> []
 | [p]=> [p]
 |p::q::l=>if q.1=p.1 then mE (q::l)else p::mE (q::l)
theorem rW(p q:Pr)(l:List Pr):mE (p::q::l)=if q.1=p.1 then mE (q::l)else p::mE (q::l):=rfl
theorem Bt:∀(l:List Pr),∀p∈mE l,p∈l
 | [],p,h=>h
 | [q],p,h=>h
 |q::r::l,p,h=>by
  rw[rW]at h;split at h
  ·exact aV _ (Bt (r::l) p h)
  ·rcases aB.1 h with rfl|h
   ·exact aC ..
   ·exact aV _ (Bt (r::l) p h)
theorem KE:∀{l:List Pr},Srt Yf l→cA (mE l)∧∀p,p∈mE l↔kT l p.1=some p
 | [],_=>⟨fc,fun p=>by simp[mE,kT]⟩
 | [q],_=>⟨List.pairwise_singleton ..,fun p=>by
   show p∈[q]↔_
   rw[au,tZ]
   by_cases e:q.1=p.1
   ·rw[if_pos e];simp[kT,eq_comm]
   ·rw[if_neg e];simp only[kT,List.filter_nil,List.getLast?_nil,reduceCtorEq,iff_false]
    rintro rfl;exact e rfl⟩
 |p::q::l,hs=>by
  have c:=bA.1 hs;obtain⟨g,i⟩:=KE (l:=q::l) c.2;rw[rW];by_cases e:q.1=p.1
  ·rw[if_pos e]
   refine⟨g,fun r=>?_⟩
   rw[i r,tZ p];by_cases a:p.1=r.1
   ·rw[if_pos a]
    have:kT (q::l) r.1≠none:=by
     rw[tZ,if_pos (e.trans a)];simp
    cases hl:kT (q::l) r.1 with
    |none=>exact absurd hl this
    |some z=>simp
   ·rw[if_neg a]
  ·rw[if_neg e]
   have f:∀r∈q::l,kl p.1 r.1:=fun r d=>by
    have b:kl p.1 q.1:=by
     have:=of_decide_eq_false (c.1 q (aC ..));exact sH this e
    rcases aB.1 d with rfl|d
    ·exact b
    ·have:=of_decide_eq_false ((bA.1 c.2).1 r d)
     by_cases a:r.1=q.1
     ·rw[a];exact b
     ·exact jo b (sH this a)
   refine⟨bA.2 ⟨fun r d=>f r (Bt _ r d),g⟩,fun r=>?_⟩
   rw[aB,i r,tZ p];by_cases a:p.1=r.1
   ·rw[if_pos a]
    have j:kT (q::l) r.1=none:=Qd fun z hz k=>by
     have:=f z hz;rw[k,a]at this;exact cM _ this
    rw[j];simp[eq_comm]
   ·rw[if_neg a]
    constructor
    ·rintro(rfl|h)
     ·exact absurd rfl a
     ·exact h
    ·exact .inr
theorem Qc{l ys:List Pr}(h:St Yf l ys):mE ys=Nm l:=by
 obtain⟨b,a⟩:=KE h.srt;refine zS b (Ka l) fun p=>?_
 rw[a p,R8,V8 h.eqf]
theorem aa9(M:Nat→Prop):Cmp Yf fe M (fun _=>True) (.func (.func sK) #[] #[]):=by
 refine⟨fun a b h K _ d=>HV.mk' (F6 a b ?_),fun _ h=>h⟩
 unfold yx aD oZ tc;refine aN fun j b1 k1=>aN fun i b2 c=>?_
 have c1:=c.get0 b1;refine⟨a.1,vc c1 0,a.2,vc c1 1,b.1,vc b2 0,?_⟩;refine NW fun g f=>d g _ ((k1.tr c).tr f) ?_
 unfold Mp Yf;split
 ·rename_i h;rw[decide_eq_true h];rfl
 ·rename_i h
  rw[decide_eq_false h];split<;>rfl
theorem Hy:∀(l:List Pr),(mE l).length≤l.length
 | []=>ao _
 | [_]=>ao _
 |p::q::l=>by
  rw[rW];have:=Hy (q::l);split
  ·simp only[aH]at this⊢;omega
  ·simp only[aH]at this⊢;omega
theorem VM{h:af}{t:TypeId}{p:Pr}{k:af→Prop}(b:∀h',h'[h.size]? =some (.cells #[.string p.1,.string p.2] t (0,0))→Upd No h h'→k h'):
 At (hnew h [.string (⟨#[]⟩:ByteArray),.string (⟨#[]⟩:ByteArray)] t) (fun a=>vo a (some (aI h)) 0 [.string p.1,.string p.2]∧At (g8 a (aI h) 0 [.string p.1,.string p.2]) k):=tf (p:=p) b
theorem Pz{N:Nat}(st:StP N)(hN:N≤100000000){W W':Nat→Prop}{h:af}{s:SliceV}{l:List Pr}(hs:Sl fe 2 W h s l)(Q:∀y,W' y→y<h.size)(hn:l.length≤N){K:SliceV→af→Prop}
  (hk:∀s' n,Sl fe 2 W' n s' (Nm l)→s'.len≤s'.cap→Upd No h n→K s' n):HC PG rM [.slice s.a s.len s.cap] [.c .slice] K h:=by
 refine JD s ?_;unfold A6 bH cS bo aD nv jm ph lf;refine Ah hs (by omega) fun s1 h1 X D=>?_
 refine st ZH (aa9 _) X trivial (by omega) fun h2 ys C A hu2=>?_
 have hyl:=A.eqf.len;have z:Upd No h h2:=D.trans hu2 fun x hx=>.inr hx
 have hlen:=C.len;have v:=Qc A;have z1:=D.size;have hll:=Hy ys;refine LoopP.ghost (fun(g:List Pr×List Pr×List Pr) (t:Int×Int) n=>t.1=(g.1.length:Int)∧t.2=((g.1.length+g.2.1.length:Nat):Int)∧g.1++mE g.2.2=mE ys∧g.1.length+g.2.1.length+g.2.2.length=ys.length∧OwnS fe 2 ay (fun b=>h.size≤b) n s1 (g.1++(g.2.1++g.2.2))∧Upd No h n) (fun g=>g.2.2.length) ([],[],ys)
  ⟨rfl,rfl,rfl,by simp,C,z⟩ ?_
 rintro I ⟨R,G,T⟩ ⟨tn,ti⟩ h3 ⟨e1,E,j,k,f,w⟩ hI;simp only at e1 E j k f;subst e1 E;refine aM (fun hlt=>?_) fun hge=>?_
 ·match T with
  | []=>simp only[bL]at k;omega
  |p::T=>
   simp only[aH]at k;have ew:IntKind.wrap .i64 (((R.length+G.length:Nat):Int)+1)=((R.length+G.length+1:Nat):Int):=by rw[jj (by omega)];omega
   simp only;rw[ew];refine Join.intro (fun n' n=>∃R' G',n'=(R'.length:Int)∧R'.length+G'.length=R.length+G.length+1∧R'++mE T=mE ys∧OwnS fe 2 ay (fun b=>h.size≤b) n s1 (R'++(G'++T))∧Upd No h n) (fun Rj u=>?_) ?_
   ·obtain⟨a,H,hv⟩:=zU f (i:=R.length+G.length) (x:=p) (by rw[bh (by omega),fG,bh (ao _),gu];rfl)
    refine⟨⟨by omega,by omega⟩,a,H,p.1,hv 0 _ rfl,p.2,hv 1 _ rfl,?_⟩
    refine VM (p:=p) fun h4 J k4=>?_
    have d:=f.upd k4 fun _ _ h=>h
    have o:=w.tr k4;refine Join.intro (fun t n=>n=h4∧(t=true↔∃q T',T=q::T'∧q.1=p.1)) (fun Rk B=>?_) ?_
    ·refine aM (fun hlt2=>?_) fun hge2=>B _ _ ⟨rfl,⟨fun h=>(by cases h),fun⟨q,T',e,_⟩=>(by subst e;simp only[aH]at k;omega)⟩⟩
     rcases T with _|⟨q,T⟩
     ·simp only[bL]at k;omega
     ·obtain⟨a',P,V⟩:=zU d (i:=R.length+G.length+1) (x:=q) (by rw[bh (by omega),show R.length+G.length+1-R.length=G.length+1 by omega,bh (by omega),fG];rfl)
      refine⟨⟨by omega,by omega⟩,a',P,q.1,V 0 _ rfl,p.1,vc J 0,B _ _ ⟨rfl,?_⟩⟩
      rw[jq,decide_eq_true_iff];exact⟨fun e=>⟨q,T,rfl,e⟩,fun⟨q',T',e,e'⟩=>by cases e;exact e'⟩
    ·rintro t h5 ⟨rfl,ht⟩
     ·cases t with
      |true=>
       obtain⟨q,T',rfl,eq⟩:=ht.1 rfl;refine aA.2 (u _ _ ⟨R,G++ [p],rfl,by simp;omega,?_,by simpa using d,o⟩)
       rw[←j,rW,if_pos eq]
      |false=>
       have F:mE (p::T)=p::mE T:=by
        rcases T with _|⟨q,T'⟩
        ·rfl
        ·rw[rW,if_neg fun e=>by have:=ht.2 ⟨q,T',rfl,e⟩;cases this]
       refine aj.2 ⟨p.1,vc J 0,p.2,vc J 1,⟨by omega,by omega⟩,a,H,?_⟩
       have Z:IntKind.wrap .i64 ((R.length:Int)+1)=((R++ [p]).length:Int):=by rw[ad,aF,jj (by omega)];omega
       rw[Z];rcases G with _|⟨g,G⟩
       ·rw[dE]at d
        refine vX d p H (by simp) fun h6 o6 L=>u _ _ ⟨R++ [p],[],rfl,by simp,?_,by simpa using o6,o.trans L fun b hb=>.inr hb⟩
        rw[←j,F];simp
       ·have f1:R++((g::G)++p::T)=R++g::(G++p::T):=by simp
        rw[f1]at d;refine vX d p H (by simp) fun h6 o6 L=>u _ _ ⟨R++ [p],G++ [p],rfl,by simp;omega,?_,by simpa using o6,o.trans L fun b hb=>.inr hb⟩
        rw[←j,F];simp
   ·rintro n' h6 ⟨R',G',rfl,hc6,O,Y,S⟩
    exact hI (R',G',T) _ _ ⟨rfl,by simp only;rw[hc6],O,by simp only;omega,Y,S⟩ (by simp)
 ·have F:T= []:=aO.1 (by omega)
  subst F;simp only[bL]at k;simp only[mE,bB]at j f;have hcap:=f.cap;refine⟨⟨by simp only;omega,by simp only;omega⟩,?_⟩
  have M:=f.sl (W:=W') fun x hx _ hw=>by have:=Q x hw;omega
  have hA:=Sl.sub M (l:=0) (hi:=R.length) (m:=s1.cap) (c:=s1.cap-0) (bj _) (by simp) (by omega);have E:((R++G).drop 0).take (R.length-0)=Nm l:=by rw[List.drop_zero,Nat.sub_zero,gV];exact j.trans v
  rw[E]at hA;exact hk _ _ hA (by simp only;omega) w
theorem Te{W W':Nat→Prop}{h:af}{s:SliceV}{l:List Pr}(c:Sl fe 2 W h s l)(a:∀y,W' y→y<h.size)(d:l.length≤10000000){K:SliceV→af→Prop}
 (b:∀s' h',Sl fe 2 W' h' s' (Nm l)→s'.len≤s'.cap→Upd No h h'→K s' h'):HC PG rM [.slice s.a s.len s.cap] [.c .slice] K h:=Pz stP (ao _) c a (by omega) b
end Go.Proofs
namespace Go.Proofs
open Go Go.Lift
end Go.Proofs
namespace Go.Proofs
open Go Go.Lift
end Go.Proofs
namespace Go.Proofs
open Go Go.Lift
theorem StP.less{N M:Nat}(h:StP N)(hm:M≤N):StP M:=fun w _ _ _ hc _ _ _ c hi b _ a=>h w hc c hi (Nat.le_trans b hm) a
end Go.Proofs
