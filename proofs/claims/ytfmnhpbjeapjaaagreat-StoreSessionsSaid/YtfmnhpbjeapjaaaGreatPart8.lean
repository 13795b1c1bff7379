/- A part of the proof that the named laws of this program answer true, whatever the input. -/
import Derived.Test.YtfmnhpbjeapjaaaGreatPart7
import Derived.Test.YtfmnhpbjeapjaaaGreatPart5
import Derived.Test.YtfmnhpbjeapjaaaGreatPart4
open BitVec renaming ofInt→ae
open Bool renaming and_eq_true→aH
open Int renaming tdiv→gH,tdiv_eq_ediv_of_nonneg→lr
open List renaming length_eq_zero_iff→bU,mem_cons→ah,getElem?_cons_zero→cn,getElem?_cons_succ→eW,mem_of_getElem?→bh,mem_cons_of_mem→aQ
open List.Pairwise renaming nil→gn
open Nat renaming le_refl→av,mul_le_mul_left→i1,le_of_eq→dX,div_mul_le_self→ma,mul_comm→oM,mul_assoc→uk,le_trans→cQ,zero_le→cu
open Prod renaming mk→oK
namespace Go.Proofs
open Go Go.Lift Go.Sort
section
theorem xo(l:List Int):l.flatMap F9=l.map fun x=>Value.int .i64 x:=by
 induction l with
 |nil=>rfl
 |cons x l ih=>rw[List.flatMap_cons,ih];rfl
structure SAJ(s:SliceV)(b:Nat)(rest:List Value)(h:ac)(d:Array Int):Prop where
 a:s.a=some ⟨b,0,none⟩
 len:s.len=d.size
 blk:h[b]? =some (.cells (d.toList.flatMap F9++rest).toArray ig (0,0))
 small:d.size≤1000000000
variable {s:SliceV} {b:Nat} {rest:List Value} {h:ac} {d:Array Int}
theorem SAJ.get(e:SAJ s b rest h d){i:Nat}(c:i<d.size):aB h (adr ⟨b,0,none⟩ (((i:Int)).toNat*1))=some (.int .i64 d[i]!):=by
 rw[bC,aC e.blk,List.getElem?_toArray,xo,List.getElem?_append_left (by simp;omega)];simp[c]
theorem SAJ.upd{M:Nat→Prop}{h':ac}(c:SAJ s b rest h d)(k:Upd M h h')(e:¬M b):SAJ s b rest h' d:=⟨c.a,c.len,k.get c.blk e,c.small⟩
theorem SAJ.put(c:SAJ s b rest h d){i:Nat}(f:i<d.size)(x:Int):Wr h (adr ⟨b,0,none⟩ (((i:Int)).toNat*1))∧SAJ s b rest (hset h (adr ⟨b,0,none⟩ (((i:Int)).toNat*1)) (.int .i64 x)) (d.setIfInBounds i x)∧
  Upd (· =b) h (hset h (adr ⟨b,0,none⟩ (((i:Int)).toNat*1)) (.int .i64 x)):=by
 have e:adr ⟨b,0,none⟩ (((i:Int)).toNat*1)=⟨b,i,none⟩:=by rw[bC];simp
 rw[e];refine⟨fR c.blk (by rw[xo];simp;omega),⟨c.a,by rw[c.len];simp,?_,by simpa using c.small⟩,Upd.hset _ _ rfl⟩
 rw[mq c.blk,dU c.blk,xo,xo,Array.toList_setIfInBounds];congr 2
 rw[List.setIfInBounds_toArray,List.set_append_left _ _ (by simp;omega),List.map_set]
theorem SAJ.ld1(c:SAJ s b rest h d){t:Int}{i:Nat}(f:t=(i:Int))(e:i<d.size){R:Int→Prop}(g:R d[i]!):
  ((0:Int)≤t∧t<((s.len:Nat):Int))∧∃a:Addr,s.a=some a∧∃v:Int,aB h (adr a (t.toNat*1))=some (.int .i64 v)∧R v:=by
 subst f;exact⟨by rw[c.len];omega,_,c.a,_,c.get e,g⟩
theorem SAJ.st(c:SAJ s b rest h d){t x:Int}{i:Nat}(e:t=(i:Int))(f:i<d.size){R:ac→Prop}(k:∀h',SAJ s b rest h' (d.setIfInBounds i x)→Upd (· =b) h h'→R h'):
  ((0:Int)≤t∧t<((s.len:Nat):Int))∧∃a:Addr,s.a=some a∧(Wr h (adr a (t.toNat*1))∧At (hset h (adr a (t.toNat*1)) (.int .i64 x)) R):=by
 subst e;obtain⟨j,m,g⟩:=c.put f x;exact⟨by rw[c.len];omega,_,c.a,j,k _ m g⟩
@[simp] theorem QC(d:Array Int)(i j:Nat):(swp d i j).size=d.size:=by simp[swp]
theorem SAJ.swap(e:SAJ s b rest h d){ti c:Int}{i j:Nat}(m:ti=(i:Int))(n:c=(j:Int))(p:i<d.size)(o:j<d.size){R:ac→Prop}(t:∀h',SAJ s b rest h' (swp d i j)→Upd (· =b) h h'→R h'):
  ((0:Int)≤c∧c<((s.len:Nat):Int))∧∃a:Addr,s.a=some a∧∃v:Int,aB h (adr a (c.toNat*1))=some (.int .i64 v)∧
   (((0:Int)≤ti∧ti<((s.len:Nat):Int))∧∃a':Addr,s.a=some a'∧∃v':Int,aB h (adr a' (ti.toNat*1))=some (.int .i64 v')∧
    (((0:Int)≤ti∧ti<((s.len:Nat):Int))∧∃a'':Addr,s.a=some a''∧(Wr h (adr a'' (ti.toNat*1))∧At (hset h (adr a'' (ti.toNat*1)) (.int .i64 v)) (fun k=>
     (((0:Int)≤c∧c<((s.len:Nat):Int))∧∃a3:Addr,s.a=some a3∧(Wr k (adr a3 (c.toNat*1))∧At (hset k (adr a3 (c.toNat*1)) (.int .i64 v')) R)))))):=by
 refine e.ld1 n o (e.ld1 m p (e.st m p fun k g k1=>g.st n (by simpa using o) fun u f q=>t u f (k1.tr q)))
theorem SAJ.less(e:SAJ s b rest h d){ti c:Int}{i j:Nat}(f:ti=(i:Int))(g:c=(j:Int))(m:i<d.size)(k:j<d.size){R:Bool→ac→Prop}(n:R (ltInt d[i]! d[j]!) h):
  ((0:Int)≤ti∧ti<((s.len:Nat):Int))∧∃a:Addr,s.a=some a∧∃v:Int,aB h (adr a (ti.toNat*1))=some (.int .i64 v)∧
   (((0:Int)≤c∧c<((s.len:Nat):Int))∧∃a':Addr,s.a=some a'∧∃v':Int,aB h (adr a' (c.toNat*1))=some (.int .i64 v')∧HC PG ce [.int .i64 v,.int .i64 v'] [.c .bool] R h):=
 e.ld1 f m (e.ld1 g k (MS n))
theorem Hr(N:SAJ s b rest h d){a e:Nat}(ha:a≤e)(Y:e≤d.size){K:Unit→ac→Prop}(S:∀h',SAJ s b rest h' (insertionSort ltInt d a e)→Upd (· =b) h h'→K () h'):
  HC PG eY [.slice s.a s.len s.cap,.int .i64 a,.int .i64 e] [] K h:=by
 refine im s a e ?_;unfold fc aD bT bV ri;have U:=N.small;refine LoopP.ghost (fun(g:Nat×Array Int) (t:Int) h'=>t=(g.1:Int)∧SAJ s b rest h' g.2∧g.2.size=d.size∧insOuter ltInt a e g.1 g.2=insertionSort ltInt d a e∧Upd (· =b) h h'∧a<g.1) (fun g=>e-g.1) (a+1,d)
  ⟨by rw[dT (by omega)];rfl,N,rfl,rfl,Upd.refl _ _,by simp⟩ ?_
 rintro I ⟨i,J⟩ t Z ⟨q,m,u,o,y,E⟩ X;simp only at q m u o E;subst q;refine ax (fun w=>?_) fun V=>?_
 ·have w:i<e:=by omega
  refine LoopP.ghost (fun(g:Nat×Array Int) (t:Int) h'=>t=(g.1:Int)∧SAJ s b rest h' g.2∧g.2.size=d.size∧insInner ltInt a g.1 g.2=insInner ltInt a i J∧Upd (· =b) h h'∧g.1≤i) (fun g=>g.1) (i,J)
   ⟨rfl,m,u,rfl,y,av _⟩ ?_
  rintro I2 ⟨j,k⟩ t Q ⟨q,c,p,n,v,C⟩ B;simp only at q c p n C;subst q;refine Join.intro (fun t h'=>h'=Q∧(t=true↔a<j∧ltInt k[j]! k[j-1]! =true)) (fun R H=>?_) ?_
  ·refine ax (fun z=>?_) fun W=>H _ _ ⟨rfl,by simp;omega⟩
   have z:a<j:=by omega
   exact c.less rfl (j:=j-1) (by rw[dT (by omega)];omega) (by omega) (by omega) (H _ _ ⟨rfl,by simp[z]⟩)
  ·rintro t h' ⟨rfl,x⟩
   refine CondP.intro (fun A=>?_) fun A=>?_
   ·obtain⟨T,O⟩:=x.1 A
    refine c.swap (i:=j) (j:=j-1) rfl (by rw[dT (by omega)];omega) (by omega) (by omega) fun h6 F G=>?_
    refine B (j-1,swp k j (j-1)) _ _ ⟨by rw[dT (by omega)];simp only;omega,F,by simp[p],?_,v.tr G,by simp only;omega⟩ (by simp only;omega)
    rw[←n];obtain⟨L,rfl⟩:∃L,j=L+1:=⟨j-1,by omega⟩
    simp only[Nat.add_sub_cancel]at O⊢;rw[insInner,if_pos (by simp[O,T])]
   ·have f:¬(a<j∧ltInt k[j]! k[j-1]! =true):=fun P=>by rw[x.2 P]at A;cases A
    have D:insInner ltInt a j k=k:=by
     cases j with
     |zero=>rw[insInner]
     |succ j=>
      simp only[Nat.add_sub_cancel]at f;rw[insInner,if_neg (by simpa using f)]
    refine X (i+1,k) _ _ ⟨by rw[dT (by omega)];rfl,c,p,?_,v,by simp only;omega⟩ (by simp only;omega)
    rw[←o];conv=>rhs;rw[insOuter]
    rw[if_pos w,←n,D]
 ·refine S _ ?_ y
  rw[←o,insOuter,if_neg (by omega)];exact m
end
section
variable {s:SliceV} {b:Nat} {rest:List Value} {h:ac} {d:Array Int}
@[simp] theorem Mv(lt:Int→Int→Bool)(b first root:Nat)(d:Array Int):(siftDown lt b first root d).size=d.size:=by
 fun_induction siftDown lt b first root d<;>simp_all
@[simp] theorem Cv(lt:Int→Int→Bool)(b first:Nat):∀(k:Nat) (d:Array Int),(heapBuild lt b first k d).size=d.size
 |0,d=>rfl
 |k+1,d=>by rw[heapBuild,Cv lt b first k];simp
theorem zq{root e first:Nat}(H:SAJ s b rest h d)(V:first+e≤d.size){K:Unit→ac→Prop}(E:∀h',SAJ s b rest h' (siftDown ltInt e first root d)→Upd (· =b) h h'→K () h')(L:root≤1000000000):
  HC PG eI [.slice s.a s.len s.cap,.int .i64 root,.int .i64 e,.int .i64 first] [] K h:=by
 refine qw s root e first ?_
 unfold jU aD bT bV ri;have P:=H.small;refine LoopP.ghost (fun(g:Nat×Array Int) (t:Int) h'=>t=(g.1:Int)∧SAJ s b rest h' g.2∧g.2.size=d.size∧siftDown ltInt e first g.1 g.2=siftDown ltInt e first root d∧Upd (· =b) h h'∧g.1≤1000000000) (fun g=>e-g.1) (root,d)
  ⟨rfl,H,rfl,rfl,Upd.refl _ _,L⟩ ?_
 rintro I ⟨i,k⟩ t F ⟨C,f,q,o,p,B⟩ S;simp only at C f q o B;subst C;have N:IntKind.wrap .i64 (IntKind.wrap .i64 (2*(i:Int))+1)=((2*i+1:Nat):Int):=by rw[dT (x:=2*(i:Int)) (by omega),dT (by omega)];omega
 have D:IntKind.wrap .i64 (((2*i+1:Nat):Int)+1)=((2*i+2:Nat):Int):=by rw[dT (by omega)];omega
 rw[N];refine ax (fun Q=>?_) fun z=>?_
 ·refine E _ ?_ p
  rw[←o,siftDown,dif_pos (by omega)];exact f
 ·have z:2*i+1<e:=by omega
  refine Join.intro (fun t h'=>h'=F∧∃c:Nat,t=(c:Int)∧c=if 2*i+2<e∧ltInt k[first+(2*i+1)]! k[first+(2*i+1)+1]! =true then 2*i+2 else 2*i+1) (fun R G=>?_) ?_
  ·refine Join.intro (fun t h'=>h'=F∧(t=true↔2*i+2<e∧ltInt k[first+(2*i+1)]! k[first+(2*i+1)+1]! =true)) (fun U w=>?_) ?_
   ·show CondP (decide (IntKind.wrap .i64 (((2*i+1:Nat):Int)+1)<(e:Int))) _ _
    rw[D];refine ax (fun n=>?_) fun n=>w _ _ ⟨rfl,by simp;omega⟩
    show(((0:Int)≤IntKind.wrap .i64 ((first:Int)+((2*i+1:Nat):Int))∧_)∧_)
    refine f.less (i:=first+(2*i+1)) (j:=first+(2*i+1)+1) (by rw[dT (by omega)];omega) (by rw[dT (x:=(first:Int)+_) (by omega),dT (by omega)];omega) (by omega) (by omega) (w _ _ ⟨rfl,?_⟩)
    simp;omega
   ·rintro t h' ⟨rfl,v⟩
    refine CondP.intro (fun n=>?_) fun n=>?_
    ·show R (IntKind.wrap .i64 (((2*i+1:Nat):Int)+1)) _
     rw[D];exact G _ _ ⟨rfl,_,rfl,by rw[if_pos (v.1 n)]⟩
    ·exact G _ _ ⟨rfl,_,rfl,by rw[if_neg fun J=>by rw[v.2 J]at n;cases n]⟩
  ·rintro t h' ⟨rfl,c,rfl,hc⟩
   have O:c<e∧i<c:=by rw[hc];split<;>omega
   refine f.less (i:=first+i) (j:=first+c) (by rw[dT (by omega)];omega) (by rw[dT (by omega)];omega) (by omega) (by omega) ?_
   have m:siftDown ltInt e first i k=if !ltInt k[first+i]! k[first+c]! then k else siftDown ltInt e first c (swp k (first+i) (first+c)):=by
    rw[siftDown,dif_neg (by omega)];by_cases u:2*i+2<e∧ltInt k[first+(2*i+1)]! k[first+(2*i+1)+1]! =true
    ·rw[if_pos (by simp only[aH,decide_eq_true_iff];exact u),dif_pos u.1]
     rw[if_pos u]at hc;rw[hc]
    ·rw[if_neg (by simp only[aH,decide_eq_true_iff];exact u)]
     rw[if_neg u]at hc;rw[hc]
   refine CondP.intro (fun n=>?_) fun n=>?_
   ·refine E _ ?_ p
    rw[←o,m,if_pos n];exact f
   ·refine f.swap (i:=first+i) (j:=first+c) (by rw[dT (by omega)];omega) (by rw[dT (by omega)];omega) (by omega) (by omega) fun T y A=>?_
    refine S (c,swp k (first+i) (first+c)) _ _ ⟨rfl,y,by simp[q],?_,p.tr A,by simp only;omega⟩ (by simp only;omega)
    rw[←o,m,if_neg (by rw[n];simp)]
theorem Gb{a e:Nat}(J:SAJ s b rest h d)(Z:a≤e)(U:e≤d.size){K:Unit→ac→Prop}(Q:∀h',SAJ s b rest h' (heapSort ltInt d a e)→Upd (· =b) h h'→K () h'):
  HC PG gu [.slice s.a s.len s.cap,.int .i64 a,.int .i64 e] [] K h:=by
 refine qx s a e ?_;unfold jV aD bT bV rG;have R:=J.small;have O:IntKind.wrap .i64 ((e:Int)-(a:Int))=((e-a:Nat):Int):=by rw[dT (by omega)];omega
 rw[O];refine⟨by decide,?_⟩;have E:IntKind.wrap .i64 (gH (IntKind.wrap .i64 (((e-a:Nat):Int)-1)) 2)=(((e-a-1)/2+1:Nat):Int)-1:=by
  rw[dT (x:=((e-a:Nat):Int)-1) (by omega)];by_cases L:e-a=0
  ·rw[L];decide
  ·rw[lr (by omega),dT (by omega)];omega
 show LoopP _ (IntKind.wrap .i64 (gH (IntKind.wrap .i64 (((e-a:Nat):Int)-1)) 2)) h
 rw[E];refine LoopP.ghost (fun(g:Nat×Array Int) (t:Int) h'=>t=(g.1:Int)-1∧SAJ s b rest h' g.2∧g.2.size=d.size∧heapBuild ltInt (e-a) a g.1 g.2=heapBuild ltInt (e-a) a ((e-a-1)/2+1) d∧Upd (· =b) h h'∧g.1≤1000000000) (fun g=>g.1) ((e-a-1)/2+1,d)
  ⟨rfl,J,rfl,rfl,Upd.refl _ _,by simp only;omega⟩ ?_
 rintro I ⟨k,S⟩ t X ⟨q,m,o,p,u,C⟩ T;simp only at q m o p C;subst q;refine ax (fun D=>?_) fun P=>?_
 ·obtain⟨k,rfl⟩:∃k',k=k'+1:=⟨k-1,by omega⟩
  have w:((k+1:Nat):Int)-1=(k:Int):=by omega
  rw[w];refine zq m (by omega) (fun N c f=>T (k,_) _ _ ⟨by rw[dT (by omega)],c,by simp[o],?_,u.tr f,by simp only;omega⟩ (by simp)) (by omega)
  rw[←p];rfl
 ·have:k=0:=by omega
  subst this;rw[dT (x:=((e-a:Nat):Int)-1) (by omega)];refine LoopP.ghost (fun(g:Nat×Array Int) (t:Int) h'=>t=(g.1:Int)-1∧SAJ s b rest h' g.2∧g.2.size=d.size∧heapPop ltInt a g.1 g.2=heapSort ltInt d a e∧Upd (· =b) h h'∧g.1≤e-a) (fun g=>g.1) (e-a,S)
   ⟨rfl,m,o,by rw[heapSort,←p];rfl,u,av _⟩ ?_
  rintro Y ⟨k,V⟩ t N ⟨q,c,v,n,f,A⟩ y;simp only at q c v n A;subst q;refine ax (fun D=>?_) fun H=>?_
  ·obtain⟨k,rfl⟩:∃k',k=k'+1:=⟨k-1,by omega⟩
   have w:((k+1:Nat):Int)-1=(k:Int):=by omega
   rw[w];refine c.swap (i:=a) (j:=a+k) rfl (by rw[dT (by omega)];omega) (by omega) (by omega) fun W F B=>?_
   refine zq (root:=0) F (by simp;omega) (fun h4 G z=>y (k,_) _ _ ⟨by rw[dT (by omega)],G,by simp[v],?_,(f.tr B).tr z,by simp only;omega⟩ (by simp)) (by omega)
   rw[←n];rfl
  ·have:k=0:=by omega
   subst this;refine Q _ ?_ f;rw[←n];exact c
theorem G2{a e:Nat}(w:SAJ s b rest h d)(H:a<e)(C:e≤d.size){K:Unit→ac→Prop}(y:∀h',SAJ s b rest h' (reverseRange d a e)→Upd (· =b) h h'→K () h'):
  HC PG fh [.slice s.a s.len s.cap,.int .i64 a,.int .i64 e] [] K h:=by
 refine oE s a e ?_;unfold iK aD bT bV;have z:=w.small;refine LoopP.ghost (fun(g:Nat×Nat×Array Int) (t:Int×Int) h'=>t.1=(g.1:Int)∧t.2=(g.2.1:Int)∧SAJ s b rest h' g.2.2∧g.2.2.size=d.size∧reverseLoop g.1 g.2.1 g.2.2=reverseRange d a e∧Upd (· =b) h h'∧g.2.1<e) (fun g=>g.2.1-g.1) (a,e-1,d)
  ⟨rfl,by simp only;rw[dT (by omega)];omega,w,rfl,rfl,Upd.refl _ _,by simp only;omega⟩ ?_
 rintro I ⟨i,j,A⟩ ⟨F,E⟩ G ⟨n,o,c,m,k,q,x⟩ B;simp only at n o c m k x;subst n o;refine ax (fun f=>?_) fun p=>?_
 ·have f:i<j:=by have:(i:Int)<(j:Int):=f;omega
  refine c.swap (i:=i) (j:=j) rfl rfl (by omega) (by omega) fun D u v=>?_
  refine B (i+1,j-1,swp A i j) _ _ ⟨by simp only;rw[dT (by omega)];rfl,by simp only;rw[dT (by omega)];omega,u,by simp[m],?_,q.tr v,by simp only;omega⟩ (by simp only;omega)
  rw[←k];conv=>rhs;rw[reverseLoop]
  rw[if_pos f]
 ·refine y _ ?_ q
  rw[←k,reverseLoop,if_neg (by have p:¬(i:Int)<(j:Int):=p;omega)];exact c
end
section
variable {s:SliceV} {b:Nat} {rest:List Value} {h:ac} {d:Array Int}
theorem yr{T:Int→(Bool→ac→Prop)→ac→Prop}{REST:Int→ac→Prop}{p:Int→Bool}{m n:Int}{j i0:Nat}(v:n=(i0:Int))(s:m=(j:Int))(A:j≤1000000000)(o:i0≤1000000000)
  (q:∀(i:Nat) (R:Bool→ac→Prop),i0≤i→i≤j→R (p d[i]!) h→T (i:Int) R h) (e:REST ((scanUp p d j i0:Nat):Int) h):
  LoopP (fun(I:Int→ac→Prop) (t:Int) h'=>Join (fun(c:Bool) b=>CondP c (I (IntKind.wrap .i64 (t+1)) b) (REST t b)) (fun J=>CondP (decide (t≤m)) (T t J h') (J false h'))) n h:=by
 subst v s;refine LoopP.ghost (fun(i:Nat) (t:Int) h'=>t=(i:Int)∧h'=h∧i0≤i∧i≤1000000001∧scanUp p d j i=scanUp p d j i0) (fun i=>j+1-i) i0 ⟨rfl,rfl,av _,by omega,rfl⟩ ?_
 rintro I i t h' ⟨rfl,rfl,w,u,f⟩ z;refine Join.intro (fun c b=>b=h'∧(c=true↔i≤j∧p d[i]! =true)) (fun R e=>?_) ?_
 ·refine ax (fun y=>?_) fun x=>e _ _ ⟨rfl,by simp;omega⟩
  exact q i _ w (by omega) (e _ _ ⟨rfl,by simp;omega⟩)
 ·rintro c b ⟨rfl,hc⟩
  refine CondP.intro (fun k=>?_) fun k=>?_
  ·have g:=hc.1 k
   refine z (i+1) _ _ ⟨by rw[dT (by omega)];rfl,rfl,by omega,by omega,?_⟩ (by omega)
   rw[←f];conv=>rhs;rw[scanUp]
   rw[if_pos (by simp[g])]
  ·have:scanUp p d j i=i:=by
    rw[scanUp,if_neg];intro g;simp only[aH,decide_eq_true_iff]at g;rw[hc.2 g]at k;cases k
   rw[←f,this]at e;exact e
theorem uX{T:Int→(Bool→ac→Prop)→ac→Prop}{REST:Int→ac→Prop}{p:Int→Bool}{ti o:Int}{j0 i:Nat}(v:o=(j0:Int))(q:ti=(i:Int))(z:j0≤1000000000)(s:1≤i)
  (u:∀(j:Nat) (R:Bool→ac→Prop),i≤j→j≤j0→R (p d[j]!) h→T (j:Int) R h) (e:REST ((scanDown p d i j0:Nat):Int) h):
  LoopP (fun(I:Int→ac→Prop) (t:Int) h'=>Join (fun(c:Bool) b=>CondP c (I (IntKind.wrap .i64 (t-1)) b) (REST t b)) (fun J=>CondP (decide (ti≤t)) (T t J h') (J false h'))) o h:=by
 subst v q;refine LoopP.ghost (fun(j:Nat) (t:Int) h'=>t=(j:Int)∧h'=h∧j≤j0∧scanDown p d i j=scanDown p d i j0) (fun j=>j) j0 ⟨rfl,rfl,av _,rfl⟩ ?_
 rintro I j t h' ⟨rfl,rfl,n,f⟩ y;refine Join.intro (fun c b=>b=h'∧(c=true↔i≤j∧p d[j]! =true)) (fun R e=>?_) ?_
 ·refine ax (fun x=>?_) fun w=>e _ _ ⟨rfl,by simp;omega⟩
  exact u j _ (by omega) n (e _ _ ⟨rfl,by simp;omega⟩)
 ·rintro c b ⟨rfl,hc⟩
  refine CondP.intro (fun m=>?_) fun m=>?_
  ·have g:=hc.1 m
   obtain⟨j,rfl⟩:∃k,j=k+1:=⟨j-1,by omega⟩
   refine y j _ _ ⟨by rw[dT (by omega)];omega,rfl,by omega,?_⟩ (by omega)
   rw[←f];conv=>rhs;rw[scanDown]
   rw[if_pos (by simp[g])]
  ·have:scanDown p d i j=j:=by
    cases j with
    |zero=>rw[scanDown]
    |succ j=>
     rw[scanDown,if_neg];intro g;simp only[aH,decide_eq_true_iff]at g;rw[hc.2 g]at m;cases m
   rw[←f,this]at e;exact e
theorem IU{a e n:Nat}(H:SAJ s b rest h d)(ha:a≤n)(W:n<e)(U:e≤d.size){K:Int→ac→Prop}(G:∀h',SAJ s b rest h' (partitionEqual ltInt d a e n).2→Upd (· =b) h h'→K ((partitionEqual ltInt d a e n).1:Nat) h'):
  HC PG eP [.slice s.a s.len s.cap,.int .i64 a,.int .i64 e,.int .i64 n] [.c (.int .i64)] K h:=by
 refine np s a e n ?_;unfold gZ aD bT bV ri;have O:=H.small;refine H.swap (i:=a) (j:=n) rfl rfl (by omega) (by omega) fun T B E=>?_
 refine LoopP.ghost (fun(g:Nat×Nat×Array Int) (t:Int×Int) h'=>t.1=(g.1:Int)∧t.2=(g.2.1:Int)∧SAJ s b rest h' g.2.2∧g.2.2.size=d.size∧partEqLoop ltInt a g.1 g.2.1 g.2.2=partitionEqual ltInt d a e n∧Upd (· =b) h h'∧g.2.1<e∧a<g.1∧g.1≤1000000000) (fun g=>g.2.1+1-g.1) (a+1,e-1,swp d a n)
  ⟨by simp only;rw[dT (by omega)];rfl,by simp only;rw[dT (by omega)];omega,B,by simp,rfl,E,by simp only;omega,by simp,by simp only;omega⟩ ?_
 rintro I ⟨i,j,f⟩ ⟨Y,X⟩ Z ⟨q,u,m,o,c,v,N,C,w⟩ S;simp only at q u m o c N C w;subst q u;have J:=scanUp_ge (fun x=> !ltInt f[a]! x) f j i
 rw[partEqLoop_eq]at c;refine yr (d:=f) (p:=fun x=> !ltInt f[a]! x) (i0:=i) rfl rfl (by omega) w (fun k R F A D=>m.less (i:=a) (j:=k) rfl rfl (by omega) (by omega) D) ?_
 generalize scanUp (fun x=> !ltInt f[a]! x) f j i=i2 at J c
 have L:=scanDown_le (fun x=>ltInt f[a]! x) f i2 j
 refine uX (d:=f) (p:=fun x=>ltInt f[a]! x) (j0:=j) (i:=i2) rfl rfl (by omega) (by omega) (fun k R F A D=>m.less (i:=a) (j:=k) rfl rfl (by omega) (by omega) D) ?_
 generalize scanDown (fun x=>ltInt f[a]! x) f i2 j=j2 at L c
 refine ax (fun P=>?_) fun Q=>?_
 ·rw[if_pos (by omega)]at c
  rw[←c]at G;exact G _ m v
 ·rw[if_neg (by omega)]at c
  refine m.swap (i:=i2) (j:=j2) rfl rfl (by omega) (by omega) fun V y z=>?_
  exact S (i2+1,j2-1,swp f i2 j2) _ _ ⟨by simp only;rw[dT (by omega)];rfl,by simp only;rw[dT (by omega)];omega,y,by simp[o],c,v.tr z,by simp only;omega,by simp only;omega,by simp only;omega⟩ (by simp only;omega)
theorem MF{a e m:Nat}(U:SAJ s b rest h d)(ha:a≤m)(hp:m<e)(he:e≤d.size){K:Int×Bool→ac→Prop}
  (L:∀h',SAJ s b rest h' (partition ltInt d a e m).2.2→Upd (· =b) h h'→K (((partition ltInt d a e m).1:Nat),(partition ltInt d a e m).2.1) h'):
  HC PG ga [.slice s.a s.len s.cap,.int .i64 a,.int .i64 e,.int .i64 m] [.c (.int .i64),.c .bool] K h:=by
 refine pZ s a e m ?_;unfold jw aD bT bV ri;have hsm:=U.small;refine U.swap (i:=a) (j:=m) rfl rfl (by omega) (by omega) fun h0 o G=>?_
 have C:(swp d a m).size=d.size:=by simp
 have q:partition ltInt d a e m=(let d:=swp d a m
  let i:=scanUp (fun x=>ltInt x d[a]!) d (e-1) (a+1)
  let j:=scanDown (fun x=> !ltInt x d[a]!) d i (e-1)
  if i>j then(j,true,swp d j a)else
  let r:=partLoop ltInt a (i+1) (j-1) (swp d i j)
  (r.1,false,swp r.2 r.1 a)):=rfl
 simp only at q;generalize swp d a m=d0 at o C q;have T:IntKind.wrap .i64 ((e:Int)-1)=((e-1:Nat):Int):=by rw[dT (by omega)];omega
 have Y:IntKind.wrap .i64 ((a:Int)+1)=((a+1:Nat):Int):=by rw[dT (by omega)];rfl
 have V:=scanUp_ge (fun x=>ltInt x d0[a]!) d0 (e-1) (a+1)
 refine yr (d:=d0) (p:=fun x=>ltInt x d0[a]!) (j:=e-1) (i0:=a+1) Y T (by omega) (by omega) (fun k R A w y=>o.less (i:=k) (j:=a) rfl rfl (by omega) (by omega) y) ?_
 generalize scanUp (fun x=>ltInt x d0[a]!) d0 (e-1) (a+1)=i2 at V q
 have X:=scanDown_le (fun x=> !ltInt x d0[a]!) d0 i2 (e-1)
 refine uX (d:=d0) (p:=fun x=> !ltInt x d0[a]!) (j0:=e-1) (i:=i2) T rfl (by omega) (by omega) (fun k R A w y=>o.less (i:=k) (j:=a) rfl rfl (by omega) (by omega) y) ?_
 generalize scanDown (fun x=> !ltInt x d0[a]!) d0 i2 (e-1)=j2 at X q
 refine ax (fun O=>?_) fun hle=>?_
 ·rw[if_pos (by omega)]at q
  rw[q]at L;exact o.swap (i:=j2) (j:=a) rfl rfl (by omega) (by omega) fun P u v=>L P u (G.tr v)
 ·rw[if_neg (by omega)]at q
  refine o.swap (i:=i2) (j:=j2) rfl rfl (by omega) (by omega) fun P u v=>?_
  refine LoopP.ghost (fun(g:Nat×Nat×Array Int) (t:Int×Int) h'=>t.1=(g.1:Int)∧t.2=(g.2.1:Int)∧SAJ s b rest h' g.2.2∧g.2.2.size=d.size∧partLoop ltInt a g.1 g.2.1 g.2.2=partLoop ltInt a (i2+1) (j2-1) (swp d0 i2 j2)∧Upd (· =b) h h'∧g.2.1<e∧a<g.1∧g.1≤1000000000) (fun g=>g.2.1+1-g.1) (i2+1,j2-1,swp d0 i2 j2)
   ⟨by simp only;rw[dT (by omega)];rfl,by simp only;rw[dT (by omega)];omega,u,by simp[C],rfl,G.tr v,by simp only;omega,by simp only;omega,by simp only;omega⟩ ?_
  rintro I ⟨i,j,f⟩ ⟨t1,t2⟩ h1 ⟨E,F,n,D,c,H,Z,N,J⟩ hI;simp only at E F n D c Z N J;subst E F;have g3:=scanUp_ge (fun x=>ltInt x f[a]!) f j i
  rw[partLoop_eq]at c;refine yr (d:=f) (p:=fun x=>ltInt x f[a]!) (i0:=i) rfl rfl (by omega) J (fun k R A w y=>n.less (i:=k) (j:=a) rfl rfl (by omega) (by omega) y) ?_
  generalize scanUp (fun x=>ltInt x f[a]!) f j i=i3 at g3 c
  have W:=scanDown_le (fun x=> !ltInt x f[a]!) f i3 j
  refine uX (d:=f) (p:=fun x=> !ltInt x f[a]!) (j0:=j) (i:=i3) rfl rfl (by omega) (by omega) (fun k R A w y=>n.less (i:=k) (j:=a) rfl rfl (by omega) (by omega) y) ?_
  generalize scanDown (fun x=> !ltInt x f[a]!) f i3 j=j3 at W c
  refine ax (fun O=>?_) fun S=>?_
  ·rw[if_pos (by omega)]at c
   rw[q,←c]at L;exact n.swap (i:=j3) (j:=a) rfl rfl (by omega) (by omega) fun Q B z=>L Q B (H.tr z)
  ·rw[if_neg (by omega)]at c
   refine n.swap (i:=i3) (j:=j3) rfl rfl (by omega) (by omega) fun Q B z=>?_
   exact hI (i3+1,j3-1,swp f i3 j3) _ _ ⟨by simp only;rw[dT (by omega)];rfl,by simp only;rw[dT (by omega)];omega,B,by simp[D],c,H.tr z,by simp only;omega,by simp only;omega,by simp only;omega⟩ (by simp only;omega)
end
section
variable {s:SliceV} {b:Nat} {rest:List Value} {h:ac} {d:Array Int}
@[simp] theorem Cq(lt:Int→Int→Bool):∀(j:Nat) (d:Array Int),(shiftDown lt j d).size=d.size
 |0,d=>rfl
 |j+1,d=>by rw[shiftDown];split;rfl;rw[Cq lt j];simp
@[simp] theorem N5(lt:Int→Int→Bool)(e j:Nat)(d:Array Int):(shiftUp lt e j d).size=d.size:=by
 fun_induction shiftUp lt e j d<;>simp_all
theorem Dq{a e:Nat}(hs:SAJ s b rest h d)(ha:a<e)(he:e≤d.size){K:Bool→ac→Prop}(P:∀h',SAJ s b rest h' (partialInsertionSort ltInt d a e).1→Upd (· =b) h h'→K (partialInsertionSort ltInt d a e).2 h'):
  HC PG dx [.slice s.a s.len s.cap,.int .i64 a,.int .i64 e] [.c .bool] K h:=by
 refine kc s a e ?_;unfold fO aD bT bV ri;have hsm:=hs.small;refine LoopP.ghost (fun(g:Nat×Nat×Array Int) (t:Int×Int) h'=>t.1=(g.2.1:Int)∧t.2=5-(g.1:Int)∧SAJ s b rest h' g.2.2∧g.2.2.size=d.size∧partialIns ltInt a e g.1 g.2.1 g.2.2=partialInsertionSort ltInt d a e∧Upd (· =b) h h'∧g.1≤5∧a<g.2.1∧g.2.1≤e) (fun g=>g.1) (5,a+1,d)
  ⟨by simp only;rw[dT (by omega)];rfl,by simp only;omega,hs,rfl,rfl,Upd.refl _ _,by simp,by simp,by simp only;omega⟩ ?_
 rintro I ⟨st,i0,F⟩ ⟨t1,t2⟩ h1 ⟨U,X,q,hz1,z,v,hst,hai,hie⟩ hI;simp only at U X q hz1 z hst hai hie;subst U X;refine ax (fun hlt=>?_) fun hge=>?_
 ·obtain⟨st,rfl⟩:∃k,st=k+1:=⟨st-1,by have:5-(st:Int)<5:=hlt;omega⟩
  refine Join.intro (fun t h'=>∃O T,t=(O:Nat)∧SAJ s b rest h' T∧T.size=d.size∧partialIns ltInt a e st O T=partialInsertionSort ltInt d a e∧Upd (· =b) h h'∧a<O∧O≤e) (fun R hR=>?_) ?_
  ·refine LoopP.ghost (fun(i:Nat) (t:Int) h'=>t=(i:Int)∧h'=h1∧scanSorted ltInt F e i=scanSorted ltInt F e i0∧a<i∧i≤e) (fun i=>e-i) i0 ⟨rfl,rfl,rfl,hai,hie⟩ ?_
   rintro I2 i t h' ⟨rfl,rfl,V,n,m⟩ hI2;refine Join.intro (fun c h''=>h''=h'∧(c=true↔i<e∧ltInt F[i]! F[i-1]! =false)) (fun R2 hR2=>?_) ?_
   ·refine ax (fun hle=>?_) fun hgt=>hR2 _ _ ⟨rfl,by simp;omega⟩
    refine q.less (i:=i) (j:=i-1) rfl (by rw[dT (by omega)];omega) (by omega) (by omega) (hR2 _ _ ⟨rfl,by simp;omega⟩)
   ·rintro c h'' ⟨rfl,hc⟩
    refine CondP.intro (fun h2=>?_) fun h2=>?_
    ·have hh:=hc.1 h2
     refine hI2 (i+1) _ _ ⟨by rw[dT (by omega)];rfl,rfl,?_,by omega,by omega⟩ (by omega)
     rw[←V];conv=>rhs;rw[scanSorted]
     rw[if_pos (by simp[hh])]
    ·have hsi:scanSorted ltInt F e i=i:=by
      rw[scanSorted,if_neg];intro hh;simp only[aH,decide_eq_true_iff,Bool.not_eq_eq_eq_not,Bool.not_true]at hh;rw[hc.2 hh]at h2;cases h2
     have f:=z;rw[partialIns]at f;simp only[←V,hsi]at f;refine CondP.intro (fun E=>?_) fun E=>?_
     ·have E:i=e:=by have:(i:Int)=e:=(by simpa using E);omega
      rw[if_pos E]at f;rw[←f]at P;exact P _ q v
     ·have E:i≠e:=fun e'=>by subst e';simp at E
      rw[if_neg E]at f;have we:IntKind.wrap .i64 ((e:Int)-(a:Int))=((e-a:Nat):Int):=by rw[dT (by omega)];omega
      show CondP (decide (IntKind.wrap .i64 ((e:Int)-(a:Int))<50)) _ _
      rw[we];refine ax (fun h4=>?_) fun h4=>?_
      ·rw[if_pos (by omega)]at f
       rw[←f]at P;exact P _ q v
      ·rw[if_neg (by omega)]at f
       have hi1:1≤i:=by omega
       refine q.swap (i:=i) (j:=i-1) rfl (by rw[dT (by omega)];omega) (by omega) (by omega) fun h5 G Z=>?_
       have N:(swp F i (i-1)).size=d.size:=by simp[hz1]
       generalize swp F i (i-1)=d5 at G N f;refine Join.intro (fun _ h'=>SAJ s b rest h' (if i-a≥2 then shiftDown ltInt (i-1) d5 else d5)∧Upd (· =b) h h') (fun R3 x=>?_) ?_
       ·have wi:IntKind.wrap .i64 ((i:Int)-(a:Int))=((i-a:Nat):Int):=by rw[dT (by omega)];omega
        show CondP (decide (IntKind.wrap .i64 ((i:Int)-(a:Int))≥2)) _ _
        rw[wi];refine ax (fun h6=>?_) fun h6=>?_
        ·rw[if_pos (by omega)]at x
         refine LoopP.ghost (fun(g:Nat×Array Int) (t:Int) h'=>t=(g.1:Int)∧SAJ s b rest h' g.2∧g.2.size=d.size∧shiftDown ltInt g.1 g.2=shiftDown ltInt (i-1) d5∧Upd (· =b) h h'∧g.1<e) (fun g=>g.1) (i-1,d5)
          ⟨by rw[dT (by omega)];simp only;omega,G,N,rfl,v.tr Z,by simp only;omega⟩ ?_
         rintro I4 ⟨j,S⟩ t h7 ⟨ht,w,hz7,p,B,C⟩ H;simp only at ht w hz7 p C;subst ht;refine ax (fun h8=>?_) fun h8=>?_
         ·obtain⟨j,rfl⟩:∃k,j=k+1:=⟨j-1,by omega⟩
          have Q:IntKind.wrap .i64 (((j+1:Nat):Int)-1)=(j:Int):=by rw[dT (by omega)];omega
          rw[shiftDown]at p;refine w.less (i:=j+1) (j:=j) rfl Q (by omega) (by omega) (CondP.intro (fun W=>?_) fun W=>?_)
          ·rw[if_pos W]at p
           exact x _ _ ⟨by rw[←p];exact w,B⟩
          ·rw[if_neg (by rw[W];simp)]at p
           refine w.swap (i:=j+1) (j:=j) rfl Q (by omega) (by omega) fun A hs10 Y=>?_
           exact H (j,swp S (j+1) j) _ _ ⟨Q,hs10,by simp[hz7],p,B.tr Y,by simp only;omega⟩ (by simp)
         ·have:j=0:=by omega
          subst this;exact x _ _ ⟨by rw[←p];exact w,B⟩
        ·rw[if_neg (by omega)]at x
         exact x _ _ ⟨G,v.tr Z⟩
       ·rintro _ h6 ⟨D,hu6⟩
        have J:(if i-a≥2 then shiftDown ltInt (i-1) d5 else d5).size=d.size:=by split<;>simp[N]
        generalize (if i-a≥2 then shiftDown ltInt (i-1) d5 else d5)=S at D J f
        have wi:IntKind.wrap .i64 ((e:Int)-(i:Int))=((e-i:Nat):Int):=by rw[dT (by omega)];omega
        show CondP (decide (IntKind.wrap .i64 ((e:Int)-(i:Int))≥2)) _ _
        rw[wi];refine ax (fun h7=>?_) fun h7=>?_
        ·rw[if_pos (by omega)]at f
         refine LoopP.ghost (fun(g:Nat×Array Int) (t:Int) h'=>t=(g.1:Int)∧SAJ s b rest h' g.2∧g.2.size=d.size∧shiftUp ltInt e g.1 g.2=shiftUp ltInt e (i+1) S∧Upd (· =b) h h'∧1≤g.1∧g.1≤e) (fun g=>e-g.1) (i+1,S)
          ⟨by rw[dT (by omega)];rfl,D,J,rfl,hu6,by simp,by simp only;omega⟩ ?_
         rintro I4 ⟨j,d7⟩ t h8 ⟨ht,u,y,o,L,hj1,C⟩ H;simp only at ht u y o hj1 C;subst ht;refine ax (fun W=>?_) fun W=>?_
         ·have Q:IntKind.wrap .i64 ((j:Int)-1)=((j-1:Nat):Int):=by rw[dT (by omega)];omega
          rw[shiftUp,if_pos (by omega)]at o;refine u.less (i:=j) (j:=j-1) rfl Q (by omega) (by omega) (CondP.intro (fun A=>?_) fun A=>?_)
          ·rw[if_pos A]at o
           exact hR _ _ ⟨i,d7,rfl,u,y,by rw[o];exact f,L,n,m⟩
          ·rw[if_neg (by rw[A];simp)]at o
           refine u.swap (i:=j) (j:=j-1) rfl Q (by omega) (by omega) fun h11 hs11 hu11=>?_
           exact H (j+1,swp d7 j (j-1)) _ _ ⟨by rw[dT (by omega)];rfl,hs11,by simp[y],o,L.tr hu11,by simp,by simp only;omega⟩ (by simp only;omega)
         ·rw[shiftUp,if_neg (by omega)]at o
          exact hR _ _ ⟨i,d7,rfl,u,y,by rw[o];exact f,L,n,m⟩
        ·rw[if_neg (by omega)]at f
         exact hR _ _ ⟨i,S,rfl,D,J,f,hu6,n,m⟩
  ·rintro t h' ⟨O,T,rfl,hs2,hz2,f,hu2,n,m⟩
   exact hI (st,O,T) _ _ ⟨rfl,by simp only;rw[dT (by omega)];omega,hs2,hz2,f,hu2,by simp only;omega,n,m⟩ (by simp)
 ·have:st=0:=by have:¬5-(st:Int)<5:=hge;omega
  subst this;rw[partialIns]at z;rw[←z]at P;exact P _ q v
theorem yy{x y:Nat}(f:SAJ s b rest h d)(hx:x<d.size)(u:y<d.size){c:Nat}{n:Int}(hc:h[c]? =some (.cells #[.int .i64 n] ig (0,0))) (g:c≠b) {K:Int×Int→ac→Prop}
  (o:∀h' (p q:Nat) m,(p=x∧q=y∨p=y∧q=x)→SAJ s b rest h' d→h'[c]? =some (.cells #[.int .i64 m] ig (0,0))→Upd (· =c) h h'→K ((p:Int),(q:Int)) h'):
  HC PG dJ [.slice s.a s.len s.cap,.int .i64 x,.int .i64 y,.pointer (some ⟨c,0,none⟩)] [.c (.int .i64),.c (.int .i64)] K h:=by
 refine sd s x y (some ⟨c,0,none⟩) ?_;unfold li aD bT ri;refine f.less (i:=y) (j:=x) rfl rfl u hx (CondP.intro (fun t=>?_) fun t=>?_)
 ·refine⟨_,rfl,n,by rw[aC hc];rfl,_,rfl,fR hc (by simp),?_⟩
  have k:Upd (· =c) h (hset h ⟨c,0,none⟩ (.int .i64 (IntKind.wrap .i64 (n+1)))):=Upd.hset _ _ rfl
  refine o _ y x (IntKind.wrap .i64 (n+1)) (.inr ⟨rfl,rfl⟩) (f.upd k fun e=>g e.symm) ?_ k
  rw[mq hc,dU hc];rfl
 ·exact o _ x y _ (.inl ⟨rfl,rfl⟩) f hc (Upd.refl _ _)
theorem Du{x y z:Nat}(H:SAJ s b rest h d)(hx:x<d.size)(C:y<d.size)(G:z<d.size){c:Nat}{n:Int}(hc:h[c]? =some (.cells #[.int .i64 n] ig (0,0))) (e:c≠b) {K:Int→ac→Prop}
  (E:∀h' (p:Nat) m,(p=x∨p=y∨p=z)→SAJ s b rest h' d→h'[c]? =some (.cells #[.int .i64 m] ig (0,0))→Upd (· =c) h h'→K (p:Int) h'):
  HC PG fj [.slice s.a s.len s.cap,.int .i64 x,.int .i64 y,.int .i64 z,.pointer (some ⟨c,0,none⟩)] [.c (.int .i64)] K h:=by
 refine se s x y z (some ⟨c,0,none⟩) ?_;unfold lj LZ;refine yy H hx C hc e fun S F B P O g A v=>?_
 have t:B<d.size:=by omega
 have q:F<d.size:=by omega
 refine yy g t G A e fun Q J N U L f u j=>?_
 have k:J<d.size:=by omega
 refine yy f q k u e fun R T I D V w i o=>?_
 exact E _ I D (by omega) w i ((v.tr j).tr o)
theorem tU{x:Nat}(j:SAJ s b rest h d)(u:1≤x)(hx:x+1<d.size){c:Nat}{n:Int}(hc:h[c]? =some (.cells #[.int .i64 n] ig (0,0))) (f:c≠b) {K:Int→ac→Prop}
  (t:∀h' (p:Nat) m,(x-1≤p∧p≤x+1)→SAJ s b rest h' d→h'[c]? =some (.cells #[.int .i64 m] ig (0,0))→Upd (· =c) h h'→K (p:Int) h'):
  HC PG cD [.slice s.a s.len s.cap,.int .i64 x,.pointer (some ⟨c,0,none⟩)] [.c (.int .i64)] K h:=by
 refine nq s x (some ⟨c,0,none⟩) ?_;unfold g9 L3;have o:=j.small;have q:IntKind.wrap .i64 ((x:Int)-1)=((x-1:Nat):Int):=by rw[dT (by omega)];omega
 have k:IntKind.wrap .i64 ((x:Int)+1)=((x+1:Nat):Int):=by rw[dT (by omega)];omega
 rw[q,k];exact Du j (by omega) (by omega) hx hc f fun h' p m v e i g=>t h' p m (by omega) e i g
theorem CA{a e:Nat}(H:SAJ s b rest h d)(ha:a<e)(he:e≤d.size){K:Int×Int→ac→Prop}
  (w:∀h' (p:Nat) (n:Int),a≤p→p<e→SAJ s b rest h' d→Upd No h h'→K ((p:Int),n) h'):
  HC PG fF [.slice s.a s.len s.cap,.int .i64 a,.int .i64 e] [.c (.int .i64),.c (.int .i64)] K h:=by
 refine oX s a e ?_;unfold iR L3 L2;have Y:=H.small;have k0:=Upd.hnew No h [.int .i64 0] ig;have o:=be h [.int .i64 0] ig;have j:=H.upd k0 id;have hbl:=aL H.blk;have i:h.size≠b:=by omega
 simp only[At];generalize hnew h [.int .i64 0] ig=h0 at k0 o j;have wl:IntKind.wrap .i64 ((e:Int)-(a:Int))=((e-a:Nat):Int):=by rw[dT (by omega)];omega
 have wq:IntKind.wrap .i64 (gH ((e-a:Nat):Int) 4)=(((e-a)/4:Nat):Int):=by
  rw[lr (by omega),dT (by omega)];omega
 have wm:∀k:Nat,k≤3→IntKind.wrap .i64 (((((e-a)/4:Nat):Int))*(k:Int))=(((e-a)/4*k:Nat):Int):=fun k w=>by
  rw[Int.natCast_mul,dT];have:(e-a)/4*k≤1000000000*3:=Nat.mul_le_mul (by omega) w;have:(((e-a)/4*k:Nat):Int)=(((e-a)/4:Nat):Int)*(k:Int):=Int.natCast_mul ..;omega
 have P:=wm 1 (by omega);have O:=wm 2 (by omega);have U:=wm 3 (by omega);simp only[Int.cast_ofNat_Int]at P O U;simp only[Bd,wl,wq];have N:IntKind.wrap .i64 ((((e-a)/4:Nat):Int)*1)=(((e-a)/4*1:Nat):Int):=P;have G:IntKind.wrap .i64 ((((e-a)/4:Nat):Int)*2)=(((e-a)/4*2:Nat):Int):=O;have C:IntKind.wrap .i64 ((((e-a)/4:Nat):Int)*3)=(((e-a)/4*3:Nat):Int):=U;rw[N,G,C];have F:∀k:Nat,k≤3→IntKind.wrap .i64 ((a:Int)+(((e-a)/4*k:Nat):Int))=((a+(e-a)/4*k:Nat):Int):=fun k w=>by
  have:(e-a)/4*k≤(e-a)/4*3:=i1 _ w;rw[dT (by omega)];omega
 refine⟨by decide,by decide,by decide,?_⟩
 refine Join.intro (fun t h'=>∃p:Nat,t=(p:Int)∧a≤p∧p<e∧SAJ s b rest h' d∧Upd No h h'∧∃m,h'[h.size]? =some (.cells #[.int .i64 m] ig (0,0))) (fun R T=>?_) ?_
 ·rw[F 1 (by omega),F 2 (by omega),F 3 (by omega)]
  refine ax (fun Q=>?_) fun Q=>?_
  ·have Q:8≤e-a:=by omega
   refine Join.intro (fun t h'=>∃p q r:Nat,t=((p:Int),(q:Int),(r:Int))∧(a≤p∧p<e)∧(a≤q∧q<e)∧(a≤r∧r<e)∧SAJ s b rest h' d∧Upd No h h'∧∃m,h'[h.size]? =some (.cells #[.int .i64 m] ig (0,0))) (fun R2 A=>?_) ?_
   ·refine ax (fun B=>?_) fun B=>?_
    ·have B:50≤e-a:=by omega
     refine tU j (by omega) (by omega) o i fun S Z m1 e1 c g f=>?_
     refine tU c (by omega) (by omega) g i fun W J m2 V u z v=>?_
     refine tU u (by omega) (by omega) z i fun h3 X m3 e3 I D E=>?_
     exact A _ _ ⟨Z,J,X,rfl,by omega,by omega,by omega,I,k0.trans ((f.tr v).tr E) fun b L=>.inr (dX L.symm),_,D⟩
    ·exact A _ _ ⟨_,_,_,rfl,by omega,by omega,by omega,j,k0,_,o⟩
   ·rintro t S ⟨p,q,r,rfl,hp,hq,hr,c,f,m,g⟩
    refine Du c (by omega) (by omega) (by omega) g i fun W J m2 V u z v=>?_
    exact T _ _ ⟨J,rfl,by omega,by omega,u,f.trans v fun b L=>.inr (dX L.symm),_,z⟩
  ·exact T _ _ ⟨_,rfl,by omega,by omega,j,k0,_,o⟩
 ·rintro t S ⟨p,rfl,y,x,c,f,m,g⟩
  refine⟨m,by rw[bN,aC g];rfl,CondP.intro (fun _=>w _ p _ y x c f) fun _=>CondP.intro (fun _=>w _ p _ y x c f) fun _=>w _ p _ y x c f⟩
end
section
variable {s:SliceV} {b:Nat} {rest:List Value} {h:ac} {d:Array Int}
theorem GM(x:Int):IntKind.wrap .u64 x=x%18446744073709551616:=by
 simp[IntKind.wrap,IntKind.bits,IntKind.signed]
theorem Ez(x:Int){m:Int}(b:0≤m)(hm:m<18446744073709551616):0≤IntKind.wrap .u64 ((ae (IntKind.bits .u64) x&&&ae (IntKind.bits .u64) m).toNat:Int)∧IntKind.wrap .u64 ((ae (IntKind.bits .u64) x&&&ae (IntKind.bits .u64) m).toNat:Int)≤m:=by
 have d:(ae (IntKind.bits .u64) x&&&ae (IntKind.bits .u64) m).toNat≤(ae (IntKind.bits .u64) m).toNat:=by
  rw[BitVec.toNat_and];exact Nat.and_le_right
 have c:((ae (IntKind.bits .u64) m).toNat:Int)=m:=by
  show((ae 64 m).toNat:Int)=m
  rw[BitVec.toNat_ofInt];have:m%((2^64:Nat):Int)=m:=Int.emod_eq_of_lt b (by omega);rw[this];omega
 rw[GM];omega
abbrev Kj:ByteArray:=⟨#[0,1,2,2,3,3,3,3,4,4,4,4,4,4,4,4,5,5,5,5,5,5,5,5,5,5,5,5,5,5,5,5,6,6,6,6,6,6,6,6,6,6,6,6,6,6,6,6,6,6,6,6,6,6,6,6,6,6,6,6,6,6,6,6,7,7,7,7,7,7,7,7,7,7,7,7,7,7,7,7,7,7,7,7,7,7,7,7,7,7,7,7,7,7,7,7,7,7,7,7,7,7,7,7,7,7,7,7,7,7,7,7,7,7,7,7,7,7,7,7,7,7,7,7,7,7,7,7,8,8,8,8,8,8,8,8,8,8,8,8,8,8,8,8,8,8,8,8,8,8,8,8,8,8,8,8,8,8,8,8,8,8,8,8,8,8,8,8,8,8,8,8,8,8,8,8,8,8,8,8,8,8,8,8,8,8,8,8,8,8,8,8,8,8,8,8,8,8,8,8,8,8,8,8,8,8,8,8,8,8,8,8,8,8,8,8,8,8,8,8,8,8,8,8,8,8,8,8,8,8,8,8,8,8,8,8,8,8,8,8,8,8,8,8,8,8,8,8,8,8,8,8,8,8,8,8]⟩
theorem MV:∀x:Nat,x<256→∃c:UInt8,Kj[x]? =some c∧c.toNat≤8∧(1≤x→2^c.toNat≤2*x)∧(x=0→c.toNat=0):=by
 have key:∀x:Fin 256,∃c:UInt8,Kj[x.val]? =some c∧c.toNat≤8∧(1≤x.val→2^c.toNat≤2*x.val)∧(x.val=0→c.toNat=0):=by
  intro x;have:∀x:Fin 256,(match Kj[x.val]? with|some c=>decide (c.toNat≤8∧(1≤x.val→2^c.toNat≤2*x.val)∧(x.val=0→c.toNat=0))|none=>false)=true:=by decide+kernel
  have hx:=this x;split at hx
  ·rename_i c hc
   exact⟨c,hc,of_decide_eq_true hx⟩
  ·cases hx
 exact fun x hx=>key ⟨x,hx⟩
theorem Ld{n:Nat}(y:n<4294967296){K:Int→ac→Prop}(q:∀L:Nat,L≤64→(1≤n→2^L≤2*n)→K (L:Int) h):HC PG kw [.int .u64 n] [.c (.int .i64)] K h:=by
 refine tp n ?_;unfold oH;have fd:∀(x k:Nat),Int.fdiv (x:Int) (2^k)=((x/2^k:Nat):Int):=fun x k=>by
  rw[Int.fdiv_eq_ediv_of_nonneg _ (Int.pow_nonneg (by omega))];rw[Int.natCast_ediv,Int.natCast_pow];rfl
 refine Join.intro (fun t h'=>h'=h∧t=((n:Int),(0:Int))) (fun R e=>?_) ?_
 ·exact ax (fun b=>by omega) fun b=>e _ _ ⟨rfl,rfl⟩
 ·rintro t h' ⟨rfl,rfl⟩
  refine Join.intro (fun t j=>j=h'∧∃x s:Nat,t=((x:Int),(s:Int))∧x*2^s≤n∧(1≤n→1≤x)∧x<65536∧s≤16) (fun R e=>?_) ?_
  ·refine ax (fun b=>?_) fun b=>e _ _ ⟨rfl,n,0,rfl,by simp,fun h=>h,by have b:¬(n:Int)≥65536:=b;omega,by omega⟩
   have b:65536≤n:=by have b:(n:Int)≥65536:=b;omega
   refine⟨by omega,e _ _ ⟨rfl,n/2^16,16,?_,ma ..,fun _=>by omega,by omega,by omega⟩⟩
   simp only[oK.injEq];exact⟨fd n 16,by decide⟩
  ·rintro t j ⟨rfl,x,s,rfl,hx,d,f,i⟩
   refine Join.intro (fun t g=>g=j∧∃x s:Nat,t=((x:Int),(s:Int))∧x*2^s≤n∧(1≤n→1≤x)∧x<256∧s≤24) (fun R e=>?_) ?_
   ·refine ax (fun b=>?_) fun b=>e _ _ ⟨rfl,x,s,rfl,hx,d,by have b:¬(x:Int)≥256:=b;omega,by omega⟩
    have b:256≤x:=by have b:(x:Int)≥256:=b;omega
    refine⟨by omega,e _ _ ⟨rfl,x/2^8,s+8,?_,?_,fun _=>by omega,by omega,by omega⟩⟩
    ·simp only[oK.injEq]
     exact⟨fd x 8,by rw[dT (by omega)];omega⟩
    ·rw[Nat.pow_add,oM (2^s),←uk]
     exact cQ (Nat.mul_le_mul_right _ (ma ..)) hx
   ·rintro t g ⟨rfl,x,s,rfl,hx,d,f,i⟩
    obtain⟨c,hc,o,m,v⟩:=MV x f;have w:IntKind.wrap .u8 (x:Int)=(x:Int):=by
     simp[IntKind.wrap,IntKind.bits,IntKind.signed];omega
    show∃b10:UInt8,(0:Int)≤IntKind.wrap .u8 (x:Int)∧Kj[(IntKind.wrap .u8 (x:Int)).toNat]? =some b10∧_
    rw[w];refine⟨c,by omega,by simpa using hc,?_⟩
    have u:IntKind.wrap .i64 (c.toNat:Int)=(c.toNat:Int):=dT (by omega);have p:IntKind.wrap .i64 ((s:Int)+IntKind.wrap .i64 (c.toNat:Int))=((s+c.toNat:Nat):Int):=by rw[u,dT (by omega)];omega
    show K (IntKind.wrap .i64 ((s:Int)+IntKind.wrap .i64 (c.toNat:Int))) g
    rw[p];refine q _ (by omega) fun b=>?_
    have:=m (d b);rw[Nat.pow_add];calc 2^s*2^c.toNat≤2^s*(2*x):=i1 _ this
     _=2*(x*2^s):=by rw[oM (2^s),uk]
     _≤2*n:=i1 _ hx
theorem Ki{n:Nat}(c:n<4294967296){K:Int→ac→Prop}(b:∀L:Nat,L≤64→(1≤n→2^L≤2*n)→K (L:Int) h):HC PG gx [.int .u64 n] [.c (.int .i64)] K h:=by
 refine vz n ?_;unfold qB;exact Ld c b
theorem Hk{n:Nat}(c:1≤n)(i:n≤1000000000){K:Int→ac→Prop}(b:∀m:Nat,1≤m→m≤2*n→K (m:Int) h):HC PG jf [.int .i64 n] [.c (.int .u64)] K h:=by
 refine uz n ?_;unfold nD;rw[show IntKind.wrap .u64 (n:Int)=(n:Int) by rw[GM];omega]
 refine Ki (by omega) fun L g f=>⟨by omega,?_⟩
 have:=f c;have e:IntKind.wrap .u64 (1*2^(min ((L:Int)).toNat (IntKind.bits .u64)))=((2^L:Nat):Int):=by
  rw[GM,show min ((L:Int)).toNat (IntKind.bits .u64)=L by simp[IntKind.bits];omega,Int.one_mul]
  have d:(2:Int)^L=((2^L:Nat):Int):=by simp
  rw[d];generalize 2^L=P at this⊢;omega
 rw[e];exact b _ (Nat.one_le_two_pow) this
theorem Fy{c:Nat}{n:Int}{t:TypeId}(hc:h[c]? =some (.cells #[.int .u64 n] t (0,0))) {K:Int→ac→Prop}
  (o:∀h' m,h'[c]? =some (.cells #[.int .u64 m] t (0,0))→Upd (· =c) h h'→K m h'):HC PG jE [.pointer (some ⟨c,0,none⟩)] [.c (.int .u64)] K h:=by
 refine vn (some ⟨c,0,none⟩) ?_;unfold oG;have set:∀{h:ac} {n:Int} (m:Int),h[c]? =some (.cells #[.int .u64 n] t (0,0))→(hset h ⟨c,0,none⟩ (.int .u64 m))[c]? =some (.cells #[.int .u64 m] t (0,0))∧Upd (· =c) h (hset h ⟨c,0,none⟩ (.int .u64 m))∧Wr h ⟨c,0,none⟩:=fun m hc=>by
  refine⟨?_,Upd.hset _ _ rfl,fR hc (by simp)⟩;rw[mq hc,dU hc];rfl
 have b:∀{h:ac} {n:Int},h[c]? =some (.cells #[.int .u64 n] t (0,0))→aB h ⟨c,0,none⟩=some (.int .u64 n):=fun hc=>by rw[aC hc];rfl
 refine⟨_,rfl,_,b hc,_,rfl,_,b hc,by omega,_,rfl,?_⟩
 obtain⟨d,k1,g⟩:=set _ hc;refine⟨g,_,rfl,_,b d,_,rfl,_,b d,by omega,_,rfl,?_⟩
 obtain⟨e,i,k⟩:=set _ d;refine⟨k,_,rfl,_,b e,_,rfl,_,b e,by omega,_,rfl,?_⟩
 obtain⟨f,j,p⟩:=set _ e;exact⟨p,_,rfl,_,b f,o _ _ f ((k1.tr i).tr j)⟩
theorem zU{a e:Nat}(C:SAJ s b rest h d)(ha:a≤e)(he:e≤d.size){K:Unit→ac→Prop}(P:∀h' d',SAJ s b rest h' d'→PermIn a e d d'→Upd (· =b) h h'→K () h'):
  HC PG eZ [.slice s.a s.len s.cap,.int .i64 a,.int .i64 e] [] K h:=by
 refine nO s a e ?_;unfold iq aD bT bV;have Z:=C.small;have wl:IntKind.wrap .i64 ((e:Int)-(a:Int))=((e-a:Nat):Int):=by rw[dT (by omega)];omega
 rw[wl];refine ax (fun O=>?_) fun O=>P h d C (permIn_refl ..) (Upd.refl _ _)
 have O:8≤e-a:=by omega
 have k0:=Upd.hnew No h [.int .u64 0] gf;have c:=be h [.int .u64 0] gf;have y:=C.upd k0 id;have hbl:=aL C.blk;have p:h.size≠b:=by omega
 simp only[At,bN];generalize hnew h [.int .u64 0] gf=h0 at k0 c y;refine⟨fR c (by simp),?_⟩;have k1:Upd (· =h.size) h0 (hset h0 ⟨h.size,0,none⟩ (.int .u64 (IntKind.wrap .u64 ((e-a:Nat):Int)))):=Upd.hset _ _ rfl
 have A:(hset h0 ⟨h.size,0,none⟩ (.int .u64 (IntKind.wrap .u64 ((e-a:Nat):Int))))[h.size]? =some (.cells #[.int .u64 (IntKind.wrap .u64 ((e-a:Nat):Int))] gf (0,0)):=by
  rw[mq c,dU c];rfl
 have u:=y.upd k1 fun e=>p e.symm
 generalize hset h0 ⟨h.size,0,none⟩ (.int .u64 (IntKind.wrap .u64 ((e-a:Nat):Int)))=h1 at k1 A u;refine Hk (by omega) (by omega) fun m hm1 hm2=>⟨by decide,?_⟩
 have wq:IntKind.wrap .i64 (IntKind.wrap .i64 (gH ((e-a:Nat):Int) 4)*2)=(((e-a)/4*2:Nat):Int):=by
  rw[lr (by omega),dT (x:=((e-a:Nat):Int)/4) (by omega),dT (by omega)];omega
 simp only[Bd];rw[wq];have V:IntKind.wrap .i64 (IntKind.wrap .i64 ((a:Int)+(((e-a)/4*2:Nat):Int))-1)=((a+(e-a)/4*2-1:Nat):Int):=by
  rw[dT (x:=(a:Int)+_) (by omega),dT (by omega)];omega
 have T:IntKind.wrap .i64 (IntKind.wrap .i64 ((a:Int)+(((e-a)/4*2:Nat):Int))+1)=((a+(e-a)/4*2+1:Nat):Int):=by
  rw[dT (x:=(a:Int)+_) (by omega),dT (by omega)];omega
 rw[V];refine LoopP.ghost (fun(g:Nat×Array Int) (t:Int) h'=>t=(g.1:Int)∧SAJ s b rest h' g.2∧PermIn a e d g.2∧Upd (· =b) h h'∧(∃n,h'[h.size]? =some (.cells #[.int .u64 n] gf (0,0)))∧a+(e-a)/4*2-1≤g.1∧g.1≤a+(e-a)/4*2+2) (fun g=>a+(e-a)/4*2+2-g.1) (a+(e-a)/4*2-1,d)
  ⟨rfl,u,permIn_refl ..,k0.wide.trans k1 fun x hx=>.inr (by omega),⟨_,A⟩,av _,by simp only;omega⟩ ?_
 rintro I ⟨i,B⟩ t U ⟨N,k,f,v,⟨n2,F⟩,L,G⟩ hI;simp only at N k f L G;subst N;have hz:B.size=d.size:=f.1;refine⟨by decide,?_⟩;rw[T];refine ax (fun J=>?_) fun hgt=>P U B k f v
 have J:i≤a+(e-a)/4*2+1:=by omega
 refine Fy F fun W r D z=>?_
 have H:=k.upd z fun e=>p e.symm
 have wm:IntKind.wrap .u64 ((m:Int)-1)=((m-1:Nat):Int):=by rw[GM];omega
 rw[wm];obtain⟨X,a1⟩:=Ez r (m:=((m-1:Nat):Int)) (by omega) (by omega);generalize IntKind.wrap .u64 ((ae (IntKind.bits .u64) r&&&ae (IntKind.bits .u64) ((m-1:Nat):Int)).toNat:Int)=o at X a1;have S:IntKind.wrap .i64 o=o:=dT (by omega);refine Join.intro (fun t h'=>h'=W∧∃q:Nat,t=(q:Int)∧q<e-a) (fun R Q=>?_) ?_
 ·show CondP (decide (IntKind.wrap .i64 o≥((e-a:Nat):Int))) _ _
  rw[S];refine ax (fun Y=>Q _ _ ⟨rfl,(o-((e-a:Nat):Int)).toNat,?_,by omega⟩) fun Y=>Q _ _ ⟨rfl,o.toNat,by omega,by omega⟩
  show IntKind.wrap .i64 (o-((e-a:Nat):Int))=_
  rw[dT (by omega)];omega
 ·rintro t h' ⟨rfl,q,rfl,hq⟩
  have wj:IntKind.wrap .i64 ((a:Int)+(q:Int))=((a+q:Nat):Int):=by rw[dT (by omega)];omega
  refine H.swap (i:=i) (j:=a+q) rfl wj (by omega) (by omega) fun h5 E w=>?_
  refine hI (i+1,swp B i (a+q)) _ _ ⟨by rw[dT (by omega)];rfl,E,permIn_trans _ _ _ _ _ f (swp_permIn B a e i (a+q) (by omega) (by omega) (by omega) (by omega) (by omega)),?_,⟨r,w.get D p⟩,by simp only;omega,by simp only;omega⟩ (by simp only;omega)
  exact(v.trans z fun x hx=>.inr (by omega)).tr w
end
section
variable {s:SliceV} {b:Nat} {rest:List Value} {h:ac} {d:Array Int}
theorem GR:SWO ltInt:=⟨fun x=>by simp[ltInt],fun x y z c b=>by simp only[ltInt,decide_eq_true_iff]at*;omega,fun x y z c b=>by simp only[ltInt,decide_eq_false_iff_not]at*;omega⟩
theorem OC:∀(n:Nat) {a e:Nat} {Z:Int} {h:ac} {d:Array Int} {K:Unit→ac→Prop},e-a=n→SAJ s b rest h d→a≤e→e≤d.size→Go.Sort.Below ltInt a e d→
  (∀h' d',SAJ s b rest h' d'→PermIn a e d d'→SortedIn ltInt a e d'→Upd (· =b) h h'→K () h')→HC PG dB [.slice s.a s.len s.cap,.int .i64 a,.int .i64 e,.int .i64 Z] [] K h:=by
 intro n;induction n using Nat.strongRecOn with
 |_ n ih=>
 intro a e Z h d K hn hs ha he hB hk;refine kD s a e Z ?_;unfold gJ aD bT rG o9 ri;have hsm:=hs.small;refine LoopP.ghost (fun(g:Nat×Nat×Array Int) (t:Int×Int×Int×Bool×Bool) h'=>t.1=(g.1:Int)∧t.2.1=(g.2.1:Int)∧SAJ s b rest h' g.2.2∧g.2.2.size=d.size∧(a≤g.1∧g.1≤g.2.1∧g.2.1≤e)∧Go.Sort.Below ltInt g.1 g.2.1 g.2.2∧
   (∀R,PermIn g.1 g.2.1 g.2.2 R→SortedIn ltInt g.1 g.2.1 R→PermIn a e d R∧SortedIn ltInt a e R)∧Upd (· =b) h h') (fun g=>g.2.1-g.1) (a,e,d)
  ⟨rfl,rfl,hs,rfl,⟨av _,ha,av _⟩,hB,fun R h1 h2=>⟨h1,h2⟩,Upd.refl _ _⟩ ?_
 rintro I ⟨c,f,Y⟩ ⟨t1,t2,l1,wb,wp⟩ h1 ⟨L,ht2,H,T,⟨haa,y,X⟩,hB1,k,O⟩ hI;simp only at L ht2 H T haa y X hB1 k;subst L ht2;have u:f≤Y.size:=by omega
 have wl:IntKind.wrap .i64 ((f:Int)-(c:Int))=((f-c:Nat):Int):=by rw[dT (by omega)];omega
 simp only;rw[wl];refine ax (fun hle=>?_) fun hgt=>?_
 ·refine Hr H y u fun h2 w m=>?_
  obtain⟨p1,p2⟩:=insertionSort_holds GR Y c f y u;obtain⟨q1,q2⟩:=k _ p1 p2;exact hk _ _ w q1 q2 (O.tr m)
 have hgt:12<f-c:=by omega
 refine CondP.intro (fun _=>?_) fun _=>?_
 ·refine Gb H y u fun h2 w m=>?_
  obtain⟨p1,p2⟩:=heapSort_holds GR Y c f y u;obtain⟨q1,q2⟩:=k _ p1 p2;exact hk _ _ w q1 q2 (O.tr m)
 refine Join.intro (fun _ h'=>∃U,SAJ s b rest h' U∧PermIn c f Y U∧Upd (· =b) h h') (fun R C=>?_) ?_
 ·refine CondP.intro (fun _=>?_) fun _=>C _ _ ⟨Y,H,permIn_refl ..,O⟩
  exact zU H y u fun h2 U w D m=>C _ _ ⟨U,w,D,O.tr m⟩
 rintro lim2 h2 ⟨U,w,D,m⟩;have hz2:U.size=d.size:=by rw[D.1,T]
 refine CA w (by omega) (by omega) fun h3 p hn1 hpa hpe hs3 hu3=>?_
 refine Join.intro (fun t h'=>∃(q:Nat) (d3:Array Int),t.1=(q:Int)∧c≤q∧q<f∧SAJ s b rest h' d3∧PermIn c f Y d3∧Upd (· =b) h h') (fun R C=>?_) ?_
 ·refine CondP.intro (fun _=>?_) fun _=>C _ _ ⟨p,U,rfl,hpa,hpe,hs3,D,m.tr hu3.wide⟩
  refine G2 hs3 (by omega) (by omega) fun h4 N E=>C _ _ ⟨f-1-(p-c),_,?_,by omega,by omega,N,permIn_trans _ _ _ _ _ D (reverseRange_holds U c f y (by omega)),(m.tr hu3.wide).tr E⟩
  show IntKind.wrap .i64 (IntKind.wrap .i64 ((f:Int)-1)-IntKind.wrap .i64 ((p:Int)-(c:Int)))=_
  rw[dT (x:=(f:Int)-1) (by omega),dT (x:=(p:Int)-(c:Int)) (by omega),dT (by omega)];omega
 rintro⟨q1,hint⟩ h4 ⟨q,d3,hq,Q,P,N,A,E⟩;simp only at hq;subst hq;have hz3:d3.size=d.size:=by rw[A.1,T]
 have hB3:Go.Sort.Below ltInt c f d3:=hB1.perm u A;refine Join.intro (fun _ h'=>∃S,SAJ s b rest h' S∧PermIn c f Y S∧Upd (· =b) h h') (fun R C=>?_) ?_
 ·refine Join.intro (fun _ h'=>h'=h4) (fun R2 hR2=>CondP.intro (fun _=>CondP.intro (fun _=>hR2 _ _ rfl) fun _=>hR2 _ _ rfl) fun _=>hR2 _ _ rfl) ?_
  rintro _ h5 rfl;refine CondP.intro (fun _=>?_) fun _=>C _ _ ⟨d3,N,A,E⟩
  refine Dq N (by omega) (by omega) fun h6 hs6 hu6=>?_
  obtain⟨p1,p2⟩:=partialInsertionSort_holds GR d3 c f (by omega) (by omega) hB3;refine CondP.intro (fun hb=>?_) fun _=>C _ _ ⟨_,hs6,permIn_trans _ _ _ _ _ A p1,E.tr hu6⟩
  obtain⟨V,r2⟩:=k _ (permIn_trans _ _ _ _ _ A p1) (p2 hb);exact hk _ _ hs6 V r2 (E.tr hu6)
 rintro _ h5 ⟨S,hs5,F,W⟩;have hz4:S.size=d.size:=by rw[F.1,T]
 have hB4:Go.Sort.Below ltInt c f S:=hB1.perm u F;refine Join.intro (fun t h'=>h'=h5∧(t=true→0<c∧ltInt S[c-1]! S[q]! =false)) (fun R C=>?_) ?_
 ·refine ax (fun h6=>?_) fun _=>C _ _ ⟨rfl,fun e=>by cases e⟩
  refine hs5.less (i:=c-1) (j:=q) (by rw[dT (by omega)];omega) rfl (by omega) (by omega) (C _ _ ⟨rfl,fun e=>⟨by omega,by simpa using e⟩⟩)
 rintro t h6 ⟨rfl,ht⟩;refine CondP.intro (fun L=>?_) fun _=>?_
 ·obtain⟨h7,h8⟩:=ht L
  refine IU hs5 Q P (by omega) fun h9 v J=>?_
  cases hx:partitionEqual ltInt S c f q with
  |mk mid d5=>
   rw[hx]at v;obtain⟨m1,m2,m3,m4,m5⟩:=round_eq GR (partitionEqual_holds _) h7 Q P (by omega) hB4 h8 hx;refine hI (mid,f,d5) _ _ ⟨rfl,rfl,v,by simp only;omega,⟨by simp only;omega,m2,X⟩,m4,fun R V r2=>?_,W.tr J⟩ (by simp only;omega)
   obtain⟨x1,x2⟩:=m5 R V r2;exact k R (permIn_trans _ _ _ _ _ F x1) x2
 ·refine MF hs5 Q P (by omega) fun h9 v J=>?_
  cases hx:partition ltInt S c f q with
  |mk mid r=>
   obtain⟨ap,d5⟩:=r;rw[hx]at v;obtain⟨m1,m2,m3,m4,m5,m6,m7⟩:=round_part GR (partition_holds _) Q P (by omega) hB4 hx;simp only at v⊢;refine⟨by decide,?_⟩;have w1:IntKind.wrap .i64 ((mid:Int)-(c:Int))=((mid-c:Nat):Int):=by rw[dT (by omega)];omega
   have w2:IntKind.wrap .i64 ((f:Int)-(mid:Int))=((f-mid:Nat):Int):=by rw[dT (by omega)];omega
   have w3:IntKind.wrap .i64 ((mid:Int)+1)=((mid+1:Nat):Int):=by rw[dT (by omega)];omega
   rw[w1,w2,w3];refine ax (fun _=>?_) fun _=>?_
   ·refine ih (mid-c) (by omega) rfl v m1 (by omega) m4 fun h10 d6 G o z B=>?_
    obtain⟨y1,y2⟩:=m6 d6 o z;have hz6:=o.1;refine hI (mid+1,f,d6) _ _ ⟨rfl,rfl,G,by simp only;omega,⟨by simp only;omega,by simp only;omega,X⟩,y1,fun R V r2=>?_,(W.tr J).tr B⟩ (by simp only;omega)
    obtain⟨x1,x2⟩:=y2 R V r2;exact k R (permIn_trans _ _ _ _ _ F x1) x2
   ·refine ih (f-(mid+1)) (by omega) rfl v (by omega) (by omega) m5 fun h10 d6 G o z B=>?_
    obtain⟨y1,y2⟩:=m7 d6 o z;have hz6:=o.1;refine hI (c,mid,d6) _ _ ⟨rfl,rfl,G,by simp only;omega,⟨haa,m1,by simp only;omega⟩,y1,fun R V r2=>?_,(W.tr J).tr B⟩ (by simp only;omega)
    obtain⟨x1,x2⟩:=y2 R V r2;exact k R (permIn_trans _ _ _ _ _ F x1) x2
theorem Cu{d b:Array Int}(c:PermIn 0 d.size d b):b.toList.Perm d.toList:=by
 have:=c.2.2;have e:b.extract 0 d.size=b:=by rw[←c.1];simp
 rw[e]at this;simpa using this
theorem Mp{M:Nat→Prop}{h:ac}{s:SliceV}{xs:List Int}(c:OwnS F9 1 ig M h s xs)(E:xs.length≤1000000000){K:Unit→ac→Prop}
  (y:∀h' ys,OwnS F9 1 ig M h' s ys→ys.Perm xs→ys.Pairwise (·≤·)→Upd M h h'→K () h'):HC PG jh [.slice s.a s.len s.cap] [] K h:=by
 refine uB s ?_;unfold nG rG;have g:s.len=xs.length:=c.len;rw[show IntKind.wrap .u64 (s.len:Int)=(s.len:Int) by rw[GM];omega]
 refine Ki (by omega) fun L _ _=>?_
 rcases c.blk with N|⟨b,rest,A,d,J,C⟩
 ·have hx:xs= []:=by
   have:=c.cap;exact bU.1 (by omega)
  subst hx;obtain⟨z,l0,c0⟩:=s;have p:l0=0:=g;subst p;refine kD ⟨z,0,c0⟩ 0 ((0:Nat):Int) L ?_;unfold gJ aD bT rG o9 ri;refine LoopP.ghost (fun(_:Unit) (t:Int×Int×Int×Bool×Bool) h'=>t.1=0∧t.2.1=0∧h'=h) (fun _=>0) () ⟨rfl,rfl,rfl⟩ ?_
  rintro I _ ⟨P,O,R⟩ h' ⟨rfl,rfl,rfl⟩ _;refine ax (fun _=>?_) fun k=>absurd (show IntKind.wrap .i64 ((0:Int)-0)≤12 by decide) k
  refine im ⟨z,0,c0⟩ 0 0 ?_;unfold fc aD bT bV ri;refine LoopP.ghost (fun(_:Unit) (t:Int) u=>t=1∧u=h') (fun _=>0) () ⟨by decide,rfl⟩ ?_
  rintro Q _ t u ⟨rfl,rfl⟩ _;exact ax (fun k=>absurd k (by decide)) fun _=>y _ [] c (List.Perm.refl _) gn (Upd.refl _ _)
 ·have G:SAJ s b rest h xs.toArray:=⟨A,by simp[g],by simpa using J,by simpa using E⟩
  have F:((s.len:Nat):Int)=((xs.toArray.size:Nat):Int):=by simp[g]
  rw[F];refine OC (a:=0) (e:=xs.toArray.size) _ rfl G (cu _) (av _) (.inl rfl) fun h' o n v D H=>?_
  have f:=Cu v;refine y h' o.toList ⟨by rw[g,f.length_eq],c.ne,c.cap,.inr ⟨b,rest,A,d,n.blk,C⟩⟩ (by simpa using f) ?_ (H.mono fun x hx=>.inl (hx▸d))
  rw[List.pairwise_iff_getElem];intro i j B w m;have q:=v.1;have:=D i j (cu _) m (by rw[←q];simpa using w);simp only[ltInt,decide_eq_false_iff_not]at this;rw[getElem!_pos o j (by simpa using w),getElem!_pos o i (by simpa using B)]at this;simp only[Array.getElem_toList];omega
theorem Is{h:ac}{c:Value}{N:Nat}{S:List Int→Prop}{Q:Nat→Prop}(g:Gives PG c F9 N S Q h)(o:N≤1000000000)(f:∀xs,S xs→xs.length≤1000000000){K:SliceV→ac→Prop}
  (m:∀s' h' xs ys,S xs→OwnS F9 1 ig (fun b=>h.size≤b) h' s' ys→ys.Perm xs→ys.Pairwise (·≤·)→Upd No h h'→K s' h'):HC PG lZ [c] [.c .slice] K h:=by
 refine xH c ?_;unfold ra;refine HJ g o fun j t xs hx s k=>?_
 exact Mp s (f xs hx) fun p ys d i q e=>m j p xs ys hx d i q (k.trans e fun b n=>.inr n)
end
end Go.Proofs
namespace Go.Proofs
open Go Go.Lift
section
variable {h:ac} {n m:ByteArray} {id p:Int} {s:SliceV} {t:Tr}
end
theorem Mr{h:ac}{v:Value}{K:un []→ac→Prop}(i:K () h):HC PG dq [.slice none 0 0,v] [] K h:=by
 refine jQ ⟨none,0,0⟩ v ?_;unfold fy;refine MU (n:=0) (by omega) fun L _ _=>?_
 refine ni ⟨none,0,0⟩ 0 0 L v ?_;unfold gY aD bT dj uu cG QB;refine LoopP.ghost (fun(_:Unit) (t:Int×Int×Int×Bool×Bool) h'=>t.1=0∧t.2.1=0∧h'=h) (fun _=>0) () ⟨rfl,rfl,rfl⟩ ?_
 rintro I _ ⟨a,b,c⟩ h' ⟨f,g,rfl⟩ _;simp only at f g⊢;subst f g;refine ax (fun _=>?_) fun e=>absurd e (by decide)
 refine ke ⟨none,0,0⟩ 0 0 v ?_;unfold fP aD bT dj uu QJ cG QB yk;refine LoopP.ghost (fun(_:Unit) (t:Int) d=>t=1∧d=h') (fun _=>0) () ⟨by decide,rfl⟩ ?_
 rintro I _ t d ⟨rfl,rfl⟩ _;exact ax (fun e=>absurd e (by decide)) fun _=>i
theorem E6{h:ac}{r:Nat}(m:MapAt kStr N8 h r []){K:SliceV→ac→Prop}(i:∀h',Upd No h h'→K ⟨none,0,0⟩ h'):HC PG jC [.map (some r)] [.c .slice] K h:=by
 refine yM (some r) ?_;unfold sg QJ zl9;obtain⟨b,⟨es,c⟩,g⟩:=m.range;refine⟨b,.inr ⟨r,es,rfl,c⟩,wK fun f d=>?_⟩
 have k1:=Upd.push No h (.mapIter (some r) b #[] b);have d:f=h.push (.mapIter (some r) b #[] b):=d;rw[←d]at g k1;refine LoopP.ghost (fun(_:Unit) (t:SliceV) h'=>t=⟨none,0,0⟩∧h'=f) (fun _=>0) () ⟨rfl,rfl⟩ ?_
 rintro I _ t h' ⟨rfl,rfl⟩ _;refine NextP.at (M:=(· =h.size)) g rfl (fun _=>Mr (i _ k1)) fun k v e=>absurd e (by simp)
end Go.Proofs
namespace Go.Proofs
open Go Go.Lift
theorem Mq{h:ac}{s:SliceV}(e:s.len=0){K:un []→ac→Prop}(i:K () h):HC PG jg [.slice s.a s.len s.cap] [] K h:=by
 refine uA s ?_;unfold nF rG;rw[e];refine MU (n:=0) (by omega) fun L _ _=>?_
 rw[←e];refine ry s 0 s.len L ?_;rw[e];unfold kE aD bT rG o9 Oe;refine LoopP.ghost (fun(_:Unit) (t:Int×Int×Int×Bool×Bool) h'=>t.1=0∧t.2.1=0∧h'=h) (fun _=>0) () ⟨rfl,rfl,rfl⟩ ?_
 rintro I _ ⟨a,b,c⟩ h' ⟨f,g,rfl⟩ _;simp only at f g⊢;subst f g;refine ax (fun _=>?_) fun e=>absurd e (by decide)
 refine nN s 0 0 ?_;unfold ip aD bT bV Oe;refine LoopP.ghost (fun(_:Unit) (t:Int) d=>t=1∧d=h') (fun _=>0) () ⟨by decide,rfl⟩ ?_
 rintro I _ t d ⟨rfl,rfl⟩ _;exact ax (fun e=>absurd e (by decide)) fun _=>i
theorem M5{W:Nat→Prop}{h:ac}{gp gm:Nat}{nx:Int}(g:GraphAt W h gp gm [] nx){K:SliceV→ac→Prop}(k:∀s' h',s'.len=0→Upd No h h'→K s' h'):HC PG oB [.pointer (some ⟨gp,0,none⟩)] [.c .slice] K h:=by
 refine Ao (some ⟨gp,0,none⟩) ?_;unfold tL aD;obtain⟨m,hm,j⟩:=g.map;have b:=j.len hm.nodup g.nd;refine CondP.intro (fun e=>by cases e) fun _=>⟨_,rfl,_,g.c0,?_⟩
 refine MZ hm fun o q i c=>?_
 refine xG o ?_;unfold q9;refine Jy i (by rw[b];exact cu _) fun f n xs hx p d=>?_
 have e:f.len=0:=by rw[p.len,hx.length_eq,List.length_map];simpa using b
 exact Mq e (k f n e (c.tr d))
theorem M0{h:ac}{r:Nat}{m:List (Int×Option Addr)}(hm:MapAt KI pA h r m){K:Value→ac→Prop}
  (o:∀fv h',Gives PG fv F9 m.length (fun xs=>xs.Perm (m.map (·.1))) (fun b=>b=r∨b=h.size) h'→Upd No h h'→K fv h'):HC PG cV [.map (some r)] [.c .raw] K h:=by
 refine iU (some r) ?_;unfold eN;have k:=Upd.hnew No h [.map (some r)] qI;refine o _ _ ?_ k;refine Dx (hm.upd k id) (bx:=h.size) (be ..) fun y s K p d=>iw y ⟨h.size,0,none⟩ ?_
 unfold cP;obtain⟨c,⟨es,f⟩,d⟩:=d;refine⟨some r,by rw[aC p];rfl,c,.inr ⟨r,es,rfl,f⟩,?_⟩
 refine(d _ rfl).imp fun I t h n=>n.imp id fun e u ⟨x,v,j,g,i,q⟩=>⟨rfl,e,x,v,j,g,i,q⟩
end Go.Proofs
namespace Go.Proofs
open Go Go.Lift
section
variable {Ss:List Sp} {h h':ac} {M:Nat→Prop} {s s':Sp} {i:Nat}
theorem Own.cons(o:Own Ss h)(q:s'.Q h)(i:∀y,s'.T y→y<h.size∧¬AL Ss y):Own (s'::Ss) h:=by
 refine⟨fun a c=>?_,fun a c y f=>?_,fun p j a b c e g y f d=>?_⟩
 ·rcases ah.1 c with rfl|c
  ·exact q
  ·exact o.q a c
 ·rcases ah.1 c with rfl|c
  ·exact(i y f).1
  ·exact o.lt a c y f
 ·cases p with
  |zero=>
   cases j with
   |zero=>exact g rfl
   |succ j=>
    simp only[cn,eW]at c e;cases c;exact(i y f).2 ⟨b,bh e,d⟩
  |succ p=>
   cases j with
   |zero=>
    simp only[cn,eW]at c e;cases e;exact(i y d).2 ⟨a,bh c,f⟩
   |succ j=>
    simp only[eW]at c e;exact o.pd p j a b c e (by omega) y f d
theorem Own.tail(o:Own (s'::Ss) h):Own Ss h:=
 ⟨fun a c=>o.q a (aQ _ c),fun a c=>o.lt a (aQ _ c),fun p j a b c e d=>o.pd (p+1) (j+1) a b (by simpa using c) (by simpa using e) (by omega)⟩
theorem Own.al(o:Own Ss h){y:Nat}(b:AL Ss y):y<h.size:=by obtain⟨a,c,b⟩:=b;exact o.lt a c y b
theorem Pc{y:Nat}(b:AL (s'::Ss) y):s'.T y∨AL Ss y:=by
 obtain⟨a,c,b⟩:=b;rcases ah.1 c with rfl|c
 ·exact .inl b
 ·exact .inr ⟨a,c,b⟩
end
structure SwAt(z h:ac)(sp vp sm pb cb:Nat)(s:VS)(last:Int)(ids:List Int)(es:List Se)(Ss:List Sp):Prop where
 g:SsAt h sp vp sm pb cb s last ids es
 o:Own Ss h
 ap:∀y,AL Ss y→sp<y∧∀q∈es,q.eb≠y∧q.tb≠y
 k:Upd No z h
 lo:z.size≤cb
section
variable {z h h':ac} {sp vp sm pb cb:Nat} {s:VS} {last:Int} {ids:List Int} {es:List Se} {Ss:List Sp} {M:Nat→Prop} {a s':Sp} {i:Nat}
theorem SsAt.ownM(g:SsAt h sp vp sm pb cb s last ids es)(u:Upd M h h')(hM:∀y,M y→y<h.size→sp<y∧∀q∈es,q.eb≠y∧q.tb≠y):SsAt h' sp vp sm pb cb s last ids es:=by
 have m:=g.o;have n:=aL g.b;have lo:∀y,y≤sp→¬M y:=fun y c hm=>by have:=(hM y hm (by omega)).1;omega
 refine⟨WS.re g.v g.vl u fun y c=>?_,g.vl,g.vc,u.get g.b (lo _ (av _)),g.o,g.m.upd u (lo _ (by omega)),g.p.upd u (lo _ (by omega)) (lo _ (by omega)),g.cap,fun e b=>?_,g.nde,g.ndt,g.ky,g.ndk,g.few,g.l0⟩
 ·by_cases e:y<h.size
  ·have:=(hM y c e).1;omega
  ·omega
 ·obtain⟨j,i,f⟩:=g.ed e b
  obtain⟨k,d⟩:=g.lt e b;exact⟨j.upd u fun hm=>((hM _ hm k).2 e b).1 rfl,i.upd u fun hm=>((hM _ hm d).2 e b).2 rfl,f⟩
theorem SwAt.up0(w:SwAt z h sp vp sm pb cb s last ids es Ss)(k:Upd No h h'):SwAt z h' sp vp sm pb cb s last ids es Ss:=⟨w.g.up0 k,w.o.away k fun _ _ h=>h,w.ap,w.k.tr k,w.lo⟩
theorem SwAt.cons(w:SwAt z h sp vp sm pb cb s last ids es Ss)(q:s'.Q h)(c:∀y,s'.T y→y<h.size∧sp<y∧¬AL Ss y∧∀q∈es,q.eb≠y∧q.tb≠y):SwAt z h sp vp sm pb cb s last ids es (s'::Ss):=
 ⟨w.g,w.o.cons q fun y b=>⟨(c y b).1,(c y b).2.2.1⟩,fun y b=>(Pc b).elim (fun b=>⟨(c y b).2.1,(c y b).2.2.2⟩) (w.ap y),w.k,w.lo⟩
theorem SwAt.new(w:SwAt z h sp vp sm pb cb s last ids es Ss)(k:Upd No h h')(q:s'.Q h')(d:∀y,s'.T y→h.size≤y∧y<h'.size):SwAt z h' sp vp sm pb cb s last ids es (s'::Ss):=by
 have g:=aL w.g.b;refine(w.up0 k).cons q fun y f=>?_
 have t:=d y f;exact⟨t.2,by omega,fun b=>by have:=w.o.al b;omega,fun e c=>by have:=w.g.lt e c;omega⟩
theorem SwAt.tail(w:SwAt z h sp vp sm pb cb s last ids es (s'::Ss)):SwAt z h sp vp sm pb cb s last ids es Ss:=
 ⟨w.g,w.o.tail,fun y ⟨a,c,b⟩=>w.ap y ⟨a,aQ _ c,b⟩,w.k,w.lo⟩
theorem SwAt.setP(w:SwAt z h sp vp sm pb cb s last ids es Ss)(c:Ss[i]? =some a) (k:Upd M h h') (hm:∀y,M y→a.T y∨h.size≤y) (q:s'.Q h') (d:∀y,s'.T y→(a.T y∨h.size≤y)∧y<h'.size):SwAt z h' sp vp sm pb cb s last ids es (Ss.set i s'):=by
 have m:=aL w.g.b;refine⟨w.g.ownM k fun y b j=>?_,w.o.set c k hm q d,fun y b=>?_,w.k.fresh k fun y b=>?_,w.lo⟩
 ·rcases hm y b with e|e
  ·exact w.ap y ⟨a,bh c,e⟩
  ·omega
 ·rcases QA c (z:=h.size) (fun y b=>(d y b).1) y b with e|e
  ·exact w.ap y e
  ·exact⟨by omega,fun q f=>by have:=w.g.lt q f;omega⟩
 ·have g:=w.g.o
  have lo:=w.lo;rcases hm y b with e|e
  ·have:=(w.ap y ⟨a,bh c,e⟩).1;omega
  ·have:=w.k.size;omega
theorem SwAt.off(w:SwAt z h sp vp sm pb cb s last ids es Ss){b:Nat}(u:Upd (· =b) h h')(d:sp<b)(c:∀e∈es,e.eb≠b∧e.tb≠b)(f:¬AL Ss b):SwAt z h' sp vp sm pb cb s last ids es Ss:=
 ⟨w.g.own u d c,w.o.away u fun y g e=>f (by have e:y=b:=e;rw[←e];exact g),w.ap,w.k.own u (by have i:=w.g.o;have lo:=w.lo;omega),w.lo⟩
theorem OG(w:SwAt z h sp vp sm pb cb s last ids es Ss){e:Se}(p:e∈es){K:Tr→ac→Prop}(u:∀h' t c d,d.map Se.a=es.map Se.a→SwAt z h' sp vp sm pb cb s last c d Ss→K t h'):
  HC PG tc [.pointer (some ⟨e.eb,0,none⟩)] [.agg [.int .i64,.int .u64,.int .u64,.int .u64,.ptr,.ptr]] K h:=by
 have A:=w.g.o;refine PY w.g p fun h' t c d m f k v=>u h' t c d m ⟨v,?_,fun y g=>?_,w.k.fresh k fun y g=>cQ w.lo g,w.lo⟩
 ·refine w.o.away (M:=fun y=>y=cb∨∃q∈es,q.eb=y∨q.tb=y) ⟨k.size,fun b x n=>(f b x (fun e=>n (.inl e)) fun q i=>⟨fun e=>n (.inr ⟨q,i,.inl e⟩),fun e=>n (.inr ⟨q,i,.inr e⟩)⟩).1⟩ fun y g hM=>?_
  obtain⟨o,j⟩:=w.ap y g;rcases hM with e|⟨q,i,e|e⟩
  ·omega
  ·exact(j q i).1 e
  ·exact(j q i).2 e
 ·obtain⟨o,j⟩:=w.ap y g
  exact⟨o,(f y (w.o.al g) (by omega) j).2⟩
end
end Go.Proofs
namespace Go.Proofs
open Go Go.Lift
abbrev Kd(k a b c nx:Int)(br tg:SliceV)(last:Int)(d:SliceV):List Value:= [.int .i64 k,.int .u64 a,.int .u64 b,.int .u64 c,.int .u32 nx,.slice none 0 0,.slice br.a br.len br.cap,.slice tg.a tg.len tg.cap,.int .i64 last,.slice d.a d.len d.cap]
abbrev pt0:List Value:=Kd 0 0 0 0 0 bM bM 0 bM
section
variable {z h0 h h':ac} {sp vp sm pb cb:Nat} {s:VS} {last:Int} {ids:List Int} {es:List Se} {Ss:List Sp}
def Gr0(h:ac)(p:Nat)(nx:Int):Prop:=h[p+1]? =some (.cells #[.map (some p),.int .u32 nx] ff (0,0))∧MapAt KE sv h p []
theorem Gr0.upd0{p:Nat}{nx:Int}(g:Gr0 h p nx)(k:Upd No h h'):Gr0 h' p nx:=⟨k.get0 g.1,g.2.upd k fun h=>h⟩
theorem Gr0.at{p:Nat}{nx:Int}(g:Gr0 h p nx):GraphAt (CB (p+1) p) h (p+1) p [] nx:=
 ⟨g.1,⟨[],g.2,fun _=>.inr ⟨rfl,rfl⟩⟩,.inl rfl,.inr rfl,fun y b=>by rcases b with rfl|rfl;exact aL g.1;exact g.2.lt,List.nodup_nil⟩
theorem Gr0.off{p b:Nat}{nx:Int}{cs:List Value}{t:TypeId}(g:Gr0 h p nx)(c:h[b]? =some (.cells cs.toArray t (0,0))) (hc:3≤cs.length) (u:Upd (· =b) h h'):Gr0 h' p nx:=by
 refine⟨u.oth g.1 fun e=>?_,g.2.upd u fun e=>?_⟩
 ·have e:p+1=b:=e
  subst e;have:=c.symm.trans g.1;injection this with e1;injection e1 with e1;have:=congrArg Array.size e1;simp at this;omega
 ·have e:p=b:=e
  subst e;obtain⟨es,f,d,_⟩:=g.2.isMap;have:=c.symm.trans d;cases this
structure G1(z h0 h:ac)(sp vp sm pb cb:Nat)(s:VS)(last:Int)(ids:List Int)(es:List Se)(Ss:List Sp)(ps ts:List Nat):Prop where
 w:SwAt z h sp vp sm pb cb s last ids es Ss
 k:Upd No h0 h
 gs:∀p∈ps,Gr0 h p s.nx∧h0.size≤p
 ts:∀b∈ts,h[b]? =some (.cells (jA sQ).toArray aR (0,0))∧h0.size≤b
variable {ps ts:List Nat}
theorem G1.upd0(n:G1 z h0 h sp vp sm pb cb s last ids es Ss ps ts)(k:Upd No h h'):G1 z h0 h' sp vp sm pb cb s last ids es Ss ps ts:=
 ⟨n.w.up0 k,n.k.tr k,fun p d=>⟨(n.gs p d).1.upd0 k,(n.gs p d).2⟩,fun b c=>⟨k.get0 (n.ts b c).1,(n.ts b c).2⟩⟩
theorem G1.graph(n:G1 z h0 h sp vp sm pb cb s last ids es Ss ps ts)(f:s.L= []){K:Option Addr→ac→Prop}(i:∀h',G1 z h0 h' sp vp sm pb cb s last ids es Ss (h.size::ps) ts→K (some ⟨h.size+1,0,none⟩) h'):HC PG gB [.pointer (some ⟨vp,0,none⟩)] [.c .ptr] K h:=by
 refine KK n.w.g.v fun h' k gr=>?_
 have c:=n.upd0 k;refine i h' ⟨c.w,c.k,fun p d=>?_,c.ts⟩
 rcases ah.1 d with rfl|d
 ·rw[f]at gr
  obtain⟨m,hm,g⟩:=gr.map;have b:=g.len hm.nodup gr.nd;have e:m= []:=bU.1 b;subst e;exact⟨⟨gr.blk,hm⟩,n.k.size⟩
 ·exact c.gs p d
theorem G1.empty(n:G1 z h0 h sp vp sm pb cb s last ids es Ss ps ts){K:Tr→ac→Prop}(b:∀h',G1 z h0 h' sp vp sm pb cb s last ids es Ss ps ts→K s.e h'):HC PG ft [.pointer (some ⟨vp,0,none⟩)] [.agg [.int .i64,.int .u64,.int .u64,.int .u64,.ptr,.ptr]] K h:=
 KL n.w.g.v fun h' k=>b h' (n.upd0 k)
theorem G1.put(n:G1 z h0 h sp vp sm pb cb s last ids es Ss ps ts){k:ac→Prop}(e:∀h',G1 z h0 h' sp vp sm pb cb s last ids es Ss ps (h.size::ts)→k h'):At (hnew h (jA sQ) aR) k:=by
 refine bc fun h' b' k'=>e h' ?_
 have c:=n.upd0 k';refine⟨c.w,c.k,c.gs,fun b d=>?_⟩
 rcases ah.1 d with rfl|d
 ·exact⟨b',n.k.size⟩
 ·exact c.ts b d
theorem SwAt.young(c:SwAt z h0 sp vp sm pb cb s last ids es Ss){b:Nat}(g:h0.size≤b):sp<b∧(∀e∈es,e.eb≠b∧e.tb≠b)∧¬AL Ss b:=
 ⟨by have:=aL c.g.b;omega,fun e f=>by have:=c.g.lt e f;omega,fun d=>by have:=c.o.al d;omega⟩
theorem G1.fin(i:SwAt z h0 sp vp sm pb cb s last ids es Ss)(n:G1 z h0 h sp vp sm pb cb s last ids es Ss ps ts){p b:Nat}(o:p∈ps)(k:b∈ts){R:Option Addr×Addr→ac→Prop}
  (m:∀t h',(∃p b,t=(some ⟨p+1,0,none⟩,⟨b,0,none⟩)∧SwAt z h' sp vp sm pb cb s last ids es Ss∧Upd No h0 h'∧Gr0 h' p s.nx∧h'[b]? =some (.cells (jA s.e).toArray aR (0,0))∧h0.size≤b)→R t h'):
  uf h (some ⟨b,0,none⟩) 0 (jA s.e)∧At (ii h ⟨b,0,none⟩ 0 (jA s.e)) fun h'=>R (some ⟨p+1,0,none⟩,⟨b,0,none⟩) h':=by
 obtain⟨b1,b2⟩:=n.ts b k;obtain⟨g,q⟩:=n.gs p o;obtain⟨e,j,f⟩:=i.young b2;exact cU (c:=jA sQ) (vs:=jA s.e) b1 rfl fun h' b' d=>m _ _ ⟨p,b,rfl,n.w.off d e j f,n.k.own d b2,g.off b1 (by simp) d,b',b2⟩
structure P1(z h0 h:ac)(sp vp sm pb cb:Nat)(s:VS)(last:Int)(ids:List Int)(es:List Se)(Ss:List Sp)(p eb:Nat)(ts:List Nat):Prop where
 w:SwAt z h sp vp sm pb cb s last ids es Ss
 k:Upd No h0 h
 gr:Gr0 h p s.nx
 e:h[eb]? =some (.cells (jA s.e).toArray aR (0,0))
 ts:∀b∈ts,h[b]? =some (.cells pt0.toArray bF (0,0))∧h0.size≤b
variable {p eb:Nat}
theorem P1.upd0(n:P1 z h0 h sp vp sm pb cb s last ids es Ss p eb ts)(k:Upd No h h'):P1 z h0 h' sp vp sm pb cb s last ids es Ss p eb ts:=
 ⟨n.w.up0 k,n.k.tr k,n.gr.upd0 k,k.get0 n.e,fun b c=>⟨k.get0 (n.ts b c).1,(n.ts b c).2⟩⟩
theorem P1.put(n:P1 z h0 h sp vp sm pb cb s last ids es Ss p eb ts){k:ac→Prop}(e:∀h',P1 z h0 h' sp vp sm pb cb s last ids es Ss p eb (h.size::ts)→k h'):At (hnew h pt0 bF) k:=by
 refine bc fun h' b' k'=>e h' ?_
 have c:=n.upd0 k';refine⟨c.w,c.k,c.gr,c.e,fun b d=>?_⟩
 rcases ah.1 d with rfl|d
 ·exact⟨b',n.k.size⟩
 ·exact c.ts b d
theorem P1.kind(n:P1 z h0 h sp vp sm pb cb s last ids es Ss p eb ts){K:Int→ac→Prop}(b:∀h',P1 z h0 h' sp vp sm pb cb s last ids es Ss p eb ts→K s.e.1 h'):HC PG jd [GO s.e] [.c (.int .i64)] K h:=
 Mi fun h' k=>b h' (n.upd0 k)
theorem P1.hash(n:P1 z h0 h sp vp sm pb cb s last ids es Ss p eb ts){K:Int×Int×Int→ac→Prop}(b:∀h',P1 z h0 h' sp vp sm pb cb s last ids es Ss p eb ts→K (s.e.2.1,s.e.2.2.1,s.e.2.2.2.1) h'):HC PG fU [GO s.e] [.agg [.int .u64,.int .u64,.int .u64]] K h:=
 Il fun h' k=>b h' (n.upd0 k)
theorem P1.next(n:P1 z h0 h sp vp sm pb cb s last ids es Ss p eb ts){K:Int→ac→Prop}(b:K s.nx h):HC PG eR [.pointer (some ⟨p+1,0,none⟩)] [.c (.int .u32)] K h:=
 M4 n.gr.at b
theorem P1.br(n:P1 z h0 h sp vp sm pb cb s last ids es Ss p eb ts)(c:s.B= []){K:SliceV→ac→Prop}(b:∀h',P1 z h0 h' sp vp sm pb cb s last ids es Ss p eb ts→K bM h'):HC PG df [.pointer (some ⟨vp,0,none⟩)] [.c .slice] K h:=by
 refine vm _ ?_;unfold oF aD;have v:=n.w.g.v;have m:=v.b;rw[c]at m;exact aq.2 ⟨_,rfl,_,vc v.blk 8,E6 m fun h' k=>b h' (n.upd0 k)⟩
theorem P1.tg(n:P1 z h0 h sp vp sm pb cb s last ids es Ss p eb ts)(b:s.G= []){K:SliceV→ac→Prop}(c:∀h',P1 z h0 h' sp vp sm pb cb s last ids es Ss p eb ts→K bM h'):HC PG dH [.pointer (some ⟨vp,0,none⟩)] [.c .slice] K h:=by
 refine yO _ ?_;unfold sn aD;have v:=n.w.g.v;have m:=v.n;rw[b]at m;exact aq.2 ⟨_,rfl,_,vc v.blk 9,E6 m fun h' k=>c h' (n.upd0 k)⟩
theorem P1.fin(o:SwAt z h0 sp vp sm pb cb s last ids es Ss)(n:P1 z h0 h sp vp sm pb cb s last ids es Ss p eb ts){b:Nat}{e f d g i:Int}(u:b∈ts){R:Addr→ac→Prop}
  (v:∀t h',(∃b e f d g i,t=⟨b,0,none⟩∧SwAt z h' sp vp sm pb cb s last ids es Ss∧Upd No h0 h'∧Gr0 h' p s.nx∧h'[b]? =some (.cells (Kd e f d g i bM bM last bM).toArray bF (0,0))∧h0.size≤b)→R t h'):
  uf h (some ⟨b,0,none⟩) 0 (Kd e f d g i bM bM last bM)∧At (ii h ⟨b,0,none⟩ 0 (Kd e f d g i bM bM last bM)) fun h'=>R ⟨b,0,none⟩ h':=by
 obtain⟨b1,b2⟩:=n.ts b u;obtain⟨k,q,m⟩:=o.young b2;exact cU (c:=pt0) (vs:=Kd e f d g i bM bM last bM) b1 rfl fun h' b' j=>v _ _ ⟨b,e,f,d,g,i,rfl,n.w.off j k q m,n.k.own j b2,n.gr.off b1 (by simp) j,b',b2⟩
end
end Go.Proofs
