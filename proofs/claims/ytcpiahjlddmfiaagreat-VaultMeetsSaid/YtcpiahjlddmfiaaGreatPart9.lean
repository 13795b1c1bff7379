/- A part of the proof that the named laws of this program answer true, whatever the input. -/
import Derived.Test.YtcpiahjlddmfiaaGreatPart8
import Derived.Test.YtcpiahjlddmfiaaGreatPart7
open BitVec renaming ofInt→ak
open Bool renaming and_eq_true→aR
open ByteArray renaming mk→wJ
open Int renaming tdiv→mr,tdiv_eq_ediv_of_nonneg→mq
open List renaming range→fq,getElem?_eq_getElem→aj,getElem?_eq_none→lG,pairwise_iff_getElem→bZ,getElem_mem→bX,length_eq_zero_iff→aE,length_take→aP,length_map→cL
open List.Pairwise renaming nil→db
open Nat renaming le_refl→al,le_of_eq→di,zero_le→bS,le_trans→bI,lt_or_ge→cg,lt_of_lt_of_le→aC
namespace Go.Proofs
open Go Go.Lift Go.Sort
variable {dec:Int→Ch} {M:Nat→Prop} {s:SliceV} {h:ac} {d:Array Int}
theorem BT{T:Int→(Bool→ac→Prop)→ac→Prop}{REST:Int→ac→Prop}{p:Int→Bool}{u v:Int}{j i0:Nat}(y:v=(i0:Int))(x:u=(j:Int))(F:j≤1000000000)(B:i0≤1000000000)
  (E:SA dec M s h d)(C:∀(i:Nat) (R:Bool→ac→Prop) (b:ac),SA dec M s b d→i0≤i→i≤j→(∀o,SA dec M s o d→Upd No b o→R (p d[i]!) o)→T (i:Int) R b) (f:∀b,SA dec M s b d→Upd No h b→REST ((scanUp p d j i0:Nat):Int) b):
  LoopP (fun(I:Int→ac→Prop) (t:Int) h'=>Join (fun(c:Bool) a=>CondP c (I (IntKind.wrap .i64 (t+1)) a) (REST t a)) (fun J=>CondP (decide (t≤u)) (T t J h') (J false h'))) v h:=by
 subst y x;refine LoopP.ghost (fun(i:Nat) (t:Int) h'=>t=(i:Int)∧SA dec M s h' d∧Upd No h h'∧i0≤i∧i≤1000000001∧scanUp p d j i=scanUp p d j i0) (fun i=>j+1-i) i0 ⟨rfl,E,Upd.refl _ _,al _,by omega,rfl⟩ ?_
 rintro I i t h' ⟨rfl,g,k,hi,A,m⟩ w;refine Join.intro (fun c a=>SA dec M s a d∧Upd No h' a∧(c=true↔i≤j∧p d[i]! =true)) (fun R f=>?_) ?_
 ·refine aD (fun D=>?_) fun z=>f _ _ ⟨g,Upd.refl _ _,by simp;omega⟩
  exact C i _ h' g hi (by omega) fun o e n=>f _ _ ⟨e,n,by simp;omega⟩
 ·rintro c a ⟨e,n,hc⟩
  refine CondP.intro (fun b=>?_) fun b=>?_
  ·have q:=hc.1 b
   refine w (i+1) _ _ ⟨by rw[d8 (by omega)];rfl,e,k.tr n,by omega,by omega,?_⟩ (by omega)
   rw[←m];conv=>rhs;rw[scanUp]
   rw[if_pos (by simp[q])]
  ·have:scanUp p d j i=i:=by
    rw[scanUp,if_neg];intro q;simp only[aR,decide_eq_true_iff]at q;rw[hc.2 q]at b;cases b
   rw[←m,this]at f;exact f _ e (k.tr n)
theorem xg{T:Int→(Bool→ac→Prop)→ac→Prop}{REST:Int→ac→Prop}{p:Int→Bool}{w x:Int}{j0 i:Nat}(z:x=(j0:Int))(D:w=(i:Int))(G:j0≤1000000000)(B:1≤i)
  (F:SA dec M s h d)(C:∀(j:Nat) (R:Bool→ac→Prop) (b:ac),SA dec M s b d→i≤j→j≤j0→(∀q,SA dec M s q d→Upd No b q→R (p d[j]!) q)→T (j:Int) R b) (f:∀b,SA dec M s b d→Upd No h b→REST ((scanDown p d i j0:Nat):Int) b):
  LoopP (fun(I:Int→ac→Prop) (t:Int) h'=>Join (fun(c:Bool) a=>CondP c (I (IntKind.wrap .i64 (t-1)) a) (REST t a)) (fun J=>CondP (decide (w≤t)) (T t J h') (J false h'))) x h:=by
 subst z D;refine LoopP.ghost (fun(j:Nat) (t:Int) h'=>t=(j:Int)∧SA dec M s h' d∧Upd No h h'∧j≤j0∧scanDown p d i j=scanDown p d i j0) (fun j=>j) j0 ⟨rfl,F,Upd.refl _ _,al _,rfl⟩ ?_
 rintro I j t h' ⟨rfl,g,m,v,n⟩ y;refine Join.intro (fun c a=>SA dec M s a d∧Upd No h' a∧(c=true↔i≤j∧p d[j]! =true)) (fun R f=>?_) ?_
 ·refine aD (fun E=>?_) fun A=>f _ _ ⟨g,Upd.refl _ _,by simp;omega⟩
  exact C j _ h' g (by omega) v fun q e o=>f _ _ ⟨e,o,by simp;omega⟩
 ·rintro c a ⟨e,o,hc⟩
  refine CondP.intro (fun b=>?_) fun b=>?_
  ·have u:=hc.1 b
   obtain⟨j,rfl⟩:∃k,j=k+1:=⟨j-1,by omega⟩
   refine y j _ _ ⟨by rw[d8 (by omega)];omega,e,m.tr o,by omega,?_⟩ (by omega)
   rw[←n];conv=>rhs;rw[scanDown]
   rw[if_pos (by simp[u])]
  ·have:scanDown p d i j=j:=by
    cases j with
    |zero=>rw[scanDown]
    |succ j=>
     rw[scanDown,if_neg];intro u;simp only[aR,decide_eq_true_iff]at u;rw[hc.2 u]at b;cases b
   rw[←n,this]at f;exact f _ e (m.tr o)
theorem Oi{a e m:Nat}(Q:SA dec M s h d)(ha:a≤m)(hp:m<e)(he:e≤d.size){K:Int→ac→Prop}(S:∀h',SA dec M s h' (partitionEqual (jT dec) d a e m).2→Upd M h h'→K ((partitionEqual (jT dec) d a e m).1:Nat) h'):
  HC PG dP [.slice s.a s.len s.cap,.int .i64 a,.int .i64 e,.int .i64 m,qj] [.c (.int .i64)] K h:=by
 refine kH s a e m qj ?_;unfold fK cp mC aF bh jr gQ l3;have W:=Q.small;refine Q.swap (i:=a) (j:=m) rfl rfl (by omega) (by omega) fun h0 H C=>?_
 refine LoopP.ghost (fun(g:Nat×Nat×Array Int) (t:Int×Int) h'=>t.1=(g.1:Int)∧t.2=(g.2.1:Int)∧SA dec M s h' g.2.2∧g.2.2.size=d.size∧partEqLoop (jT dec) a g.1 g.2.1 g.2.2=partitionEqual (jT dec) d a e m∧Upd M h h'∧g.2.1<e∧a<g.1∧g.1≤1000000000) (fun g=>g.2.1+1-g.1) (a+1,e-1,swp d a m)
  ⟨by simp only;rw[d8 (by omega)];rfl,by simp only;rw[d8 (by omega)];omega,H,by simp,rfl,C,by simp only;omega,by simp,by simp only;omega⟩ ?_
 rintro I ⟨i,j,c⟩ ⟨t1,t2⟩ h1 ⟨A,q,w,v,b,y,U,L,u⟩ T;simp only at A q w v b U L u;subst A q;have Y:=scanUp_ge (fun x=> !(jT dec) c[a]! x) c j i
 rw[partEqLoop_eq]at b;refine BT (d:=c) (p:=fun x=> !(jT dec) c[a]! x) (i0:=i) rfl rfl (by omega) u w (fun k R h' o B D G=>o.less (i:=a) (j:=k) rfl rfl (by omega) (by omega) fun P V f F n=>by rw[n];exact G _ f F) fun hA E O=>?_
 generalize scanUp (fun x=> !(jT dec) c[a]! x) c j i=i2 at Y b
 have g2:=scanDown_le (fun x=>(jT dec) c[a]! x) c i2 j
 refine xg (d:=c) (p:=fun x=>(jT dec) c[a]! x) (j0:=j) (i:=i2) rfl rfl (by omega) (by omega) E (fun k R h' o B D G=>o.less (i:=a) (j:=k) rfl rfl (by omega) (by omega) fun P V f F n=>by rw[n];exact G _ f F) fun hB z N=>?_
 generalize scanDown (fun x=>(jT dec) c[a]! x) c i2 j=j2 at g2 b
 refine aD (fun X=>?_) fun Z=>?_
 ·rw[if_pos (by omega)]at b
  rw[←b]at S;exact S _ z (y.tr (O.tr N).wide)
 ·rw[if_neg (by omega)]at b
  refine z.swap (i:=i2) (j:=j2) rfl rfl (by omega) (by omega) fun P f J=>?_
  exact T (i2+1,j2-1,swp c i2 j2) _ _ ⟨by simp only;rw[d8 (by omega)];rfl,by simp only;rw[d8 (by omega)];omega,f,by simp[v],b,(y.tr (O.tr N).wide).tr J,by simp only;omega,by simp only;omega,by simp only;omega⟩ (by simp only;omega)
theorem RL{a e o:Nat}(hs:SA dec M s h d)(ha:a≤o)(hp:o<e)(he:e≤d.size){K:Int×Bool→ac→Prop}
  (S:∀h',SA dec M s h' (partition (jT dec) d a e o).2.2→Upd M h h'→K (((partition (jT dec) d a e o).1:Nat),(partition (jT dec) d a e o).2.1) h'):
  HC PG eG [.slice s.a s.len s.cap,.int .i64 a,.int .i64 e,.int .i64 o,qj] [.c (.int .i64),.c .bool] K h:=by
 refine mL s a e o qj ?_;unfold hJ cp mC aF bh jr gQ l3;have hsm:=hs.small;refine hs.swap (i:=a) (j:=o) rfl rfl (by omega) (by omega) fun h0 J D=>?_
 have O:(swp d a o).size=d.size:=by simp
 have q:partition (jT dec) d a e o=(let d:=swp d a o
  let i:=scanUp (fun x=>(jT dec) x d[a]!) d (e-1) (a+1)
  let j:=scanDown (fun x=> !(jT dec) x d[a]!) d i (e-1)
  if i>j then(j,true,swp d j a)else
  let r:=partLoop (jT dec) a (i+1) (j-1) (swp d i j)
  (r.1,false,swp r.2 r.1 a)):=rfl
 simp only at q;generalize swp d a o=d0 at J O q;have we:IntKind.wrap .i64 ((e:Int)-1)=((e-1:Nat):Int):=by rw[d8 (by omega)];omega
 have wa:IntKind.wrap .i64 ((a:Int)+1)=((a+1:Nat):Int):=by rw[d8 (by omega)];rfl
 have g1:=scanUp_ge (fun x=>(jT dec) x d0[a]!) d0 (e-1) (a+1)
 refine BT (d:=d0) (p:=fun x=>(jT dec) x d0[a]!) (j:=e-1) (i0:=a+1) wa we (by omega) (by omega) J (fun k R h' m u v y=>m.less (i:=k) (j:=a) rfl rfl (by omega) (by omega) fun C T b w f=>by rw[f];exact y _ b w) fun hA U kA=>?_
 generalize scanUp (fun x=>(jT dec) x d0[a]!) d0 (e-1) (a+1)=i2 at g1 q
 have g2:=scanDown_le (fun x=> !(jT dec) x d0[a]!) d0 i2 (e-1)
 refine xg (d:=d0) (p:=fun x=> !(jT dec) x d0[a]!) (j0:=e-1) (i:=i2) we rfl (by omega) (by omega) U (fun k R h' m u v y=>m.less (i:=k) (j:=a) rfl rfl (by omega) (by omega) fun C T b w f=>by rw[f];exact y _ b w) fun hB N Y=>?_
 generalize scanDown (fun x=> !(jT dec) x d0[a]!) d0 i2 (e-1)=j2 at g2 q
 refine aD (fun V=>?_) fun hle=>?_
 ·rw[if_pos (by omega)]at q
  rw[q]at S;exact N.swap (i:=j2) (j:=a) rfl rfl (by omega) (by omega) fun C b A=>S C b ((D.tr (kA.tr Y).wide).tr A)
 ·rw[if_neg (by omega)]at q
  refine N.swap (i:=i2) (j:=j2) rfl rfl (by omega) (by omega) fun C b A=>?_
  refine LoopP.ghost (fun(g:Nat×Nat×Array Int) (t:Int×Int) h'=>t.1=(g.1:Int)∧t.2=(g.2.1:Int)∧SA dec M s h' g.2.2∧g.2.2.size=d.size∧partLoop (jT dec) a g.1 g.2.1 g.2.2=partLoop (jT dec) a (i2+1) (j2-1) (swp d0 i2 j2)∧Upd M h h'∧g.2.1<e∧a<g.1∧g.1≤1000000000) (fun g=>g.2.1+1-g.1) (i2+1,j2-1,swp d0 i2 j2)
   ⟨by simp only;rw[d8 (by omega)];rfl,by simp only;rw[d8 (by omega)];omega,b,by simp[O],rfl,(D.tr (kA.tr Y).wide).tr A,by simp only;omega,by simp only;omega,by simp only;omega⟩ ?_
  rintro I ⟨i,j,n⟩ ⟨t1,t2⟩ h1 ⟨P,E,H,G,c,L,hj,X,F⟩ hI;simp only at P E H G c hj X F;subst P E;have g3:=scanUp_ge (fun x=>(jT dec) x n[a]!) n j i
  rw[partLoop_eq]at c;refine BT (d:=n) (p:=fun x=>(jT dec) x n[a]!) (i0:=i) rfl rfl (by omega) F H (fun k R h' m u v y=>m.less (i:=k) (j:=a) rfl rfl (by omega) (by omega) fun C T b w f=>by rw[f];exact y _ b w) fun hC W kC=>?_
  generalize scanUp (fun x=>(jT dec) x n[a]!) n j i=i3 at g3 c
  have g4:=scanDown_le (fun x=> !(jT dec) x n[a]!) n i3 j
  refine xg (d:=n) (p:=fun x=> !(jT dec) x n[a]!) (j0:=j) (i:=i3) rfl rfl (by omega) (by omega) W (fun k R h' m u v y=>m.less (i:=k) (j:=a) rfl rfl (by omega) (by omega) fun C T b w f=>by rw[f];exact y _ b w) fun hD Q kD=>?_
  generalize scanDown (fun x=> !(jT dec) x n[a]!) n i3 j=j3 at g4 c
  refine aD (fun V=>?_) fun hle3=>?_
  ·rw[if_pos (by omega)]at c
   rw[q,←c]at S;exact Q.swap (i:=j3) (j:=a) rfl rfl (by omega) (by omega) fun Z z B=>S Z z ((L.tr (kC.tr kD).wide).tr B)
  ·rw[if_neg (by omega)]at c
   refine Q.swap (i:=i3) (j:=j3) rfl rfl (by omega) (by omega) fun Z z B=>?_
   exact hI (i3+1,j3-1,swp n i3 j3) _ _ ⟨by simp only;rw[d8 (by omega)];rfl,by simp only;rw[d8 (by omega)];omega,z,by simp[G],c,(L.tr (kC.tr kD).wide).tr B,by simp only;omega,by simp only;omega,by simp only;omega⟩ (by simp only;omega)
end Go.Proofs
namespace Go.Proofs
open Go Go.Lift Go.Sort
variable {dec:Int→Ch} {M:Nat→Prop} {s:SliceV} {h:ac} {d:Array Int}
@[simp] theorem EJ(lt:Int→Int→Bool):∀(j:Nat) (d:Array Int),(shiftDown lt j d).size=d.size
 |0,d=>rfl
 |j+1,d=>by rw[shiftDown];split;rfl;rw[EJ lt j];simp
@[simp] theorem RB(lt:Int→Int→Bool)(e j:Nat)(d:Array Int):(shiftUp lt e j d).size=d.size:=by
 fun_induction shiftUp lt e j d<;>simp_all
theorem Ge{a e:Nat}(hs:SA dec M s h d)(ha:a<e)(he:e≤d.size){K:Bool→ac→Prop}(S:∀h',SA dec M s h' (partialInsertionSort (jT dec) d a e).1→Upd M h h'→K (partialInsertionSort (jT dec) d a e).2 h'):
  HC PG dw [.slice s.a s.len s.cap,.int .i64 a,.int .i64 e,qj] [.c .bool] K h:=by
 refine jj s a e qj ?_;unfold eM aZ cp mC aF bh jr gQ l3;have hsm:=hs.small;refine LoopP.ghost (fun(g:Nat×Nat×Array Int) (t:Int×Int) h'=>t.1=(g.2.1:Int)∧t.2=5-(g.1:Int)∧SA dec M s h' g.2.2∧g.2.2.size=d.size∧partialIns (jT dec) a e g.1 g.2.1 g.2.2=partialInsertionSort (jT dec) d a e∧Upd M h h'∧g.1≤5∧a<g.2.1∧g.2.1≤e) (fun g=>g.1) (5,a+1,d)
  ⟨by simp only;rw[d8 (by omega)];rfl,by simp only;omega,hs,rfl,rfl,Upd.refl _ _,by simp,by simp,by simp only;omega⟩ ?_
 rintro I ⟨st,i0,A⟩ ⟨t1,t2⟩ h1 ⟨ht1,ht2,G,hz1,v,hu1,hst,Y,X⟩ hI;simp only at ht1 ht2 G hz1 v hst Y X;subst ht1 ht2;refine aD (fun hlt=>?_) fun hge=>?_
 ·obtain⟨st,rfl⟩:∃k,st=k+1:=⟨st-1,by have:5-(st:Int)<5:=hlt;omega⟩
  refine Join.intro (fun t h'=>∃Q d2,t=(Q:Nat)∧SA dec M s h' d2∧d2.size=d.size∧partialIns (jT dec) a e st Q d2=partialInsertionSort (jT dec) d a e∧Upd M h h'∧a<Q∧Q≤e) (fun R hR=>?_) ?_
  ·refine LoopP.ghost (fun(i:Nat) (t:Int) h'=>t=(i:Int)∧SA dec M s h' A∧Upd No h1 h'∧scanSorted (jT dec) A e i=scanSorted (jT dec) A e i0∧a<i∧i≤e) (fun i=>e-i) i0 ⟨rfl,G,Upd.refl _ _,rfl,Y,X⟩ ?_
   rintro I2 i t h' ⟨rfl,w,k2,hsc,n,f⟩ hI2;refine Join.intro (fun c L=>SA dec M s L A∧Upd No h' L∧(c=true↔i<e∧(jT dec) A[i]! A[i-1]! =false)) (fun R2 hR2=>?_) ?_
   ·refine aD (fun hle=>?_) fun hgt=>hR2 _ _ ⟨w,Upd.refl _ _,by simp;omega⟩
    exact w.less (i:=i) (j:=i-1) rfl (by rw[d8 (by omega)];omega) (by omega) (by omega) fun B e3 p k3 he3=>hR2 _ _ ⟨p,k3,by rw[he3];simp;omega⟩
   ·rintro c L ⟨p,k3,hc⟩
    have x:=hu1.tr (k2.tr k3).wide;refine CondP.intro (fun h2=>?_) fun h2=>?_
    ·have hh:=hc.1 h2
     refine hI2 (i+1) _ _ ⟨by rw[d8 (by omega)];rfl,p,k2.tr k3,?_,by omega,by omega⟩ (by omega)
     rw[←hsc];conv=>rhs;rw[scanSorted]
     rw[if_pos (by simp[hh])]
    ·have hsi:scanSorted (jT dec) A e i=i:=by
      rw[scanSorted,if_neg];intro hh;simp only[aR,decide_eq_true_iff,Bool.not_eq_eq_eq_not,Bool.not_true]at hh;rw[hc.2 hh]at h2;cases h2
     have b:=v;rw[partialIns]at b;simp only[←hsc,hsi]at b;refine CondP.intro (fun B=>?_) fun B=>?_
     ·have B:i=e:=by
       have:(i:Int)=e:=by simpa using B
       omega
      rw[if_pos B]at b;rw[←b]at S;exact S _ p x
     ·have B:i≠e:=fun e'=>by subst e';simp at B
      rw[if_neg B]at b;have we:IntKind.wrap .i64 ((e:Int)-(a:Int))=((e-a:Nat):Int):=by rw[d8 (by omega)];omega
      show CondP (decide (IntKind.wrap .i64 ((e:Int)-(a:Int))<50)) _ _
      rw[we];refine aD (fun h4=>?_) fun h4=>?_
      ·rw[if_pos (by omega)]at b
       rw[←b]at S;exact S _ p x
      ·rw[if_neg (by omega)]at b
       have hi1:1≤i:=by omega
       refine p.swap (i:=i) (j:=i-1) rfl (by rw[d8 (by omega)];omega) (by omega) (by omega) fun h5 C hu5=>?_
       have H:(swp A i (i-1)).size=d.size:=by simp[hz1]
       generalize swp A i (i-1)=d5 at C H b;refine Join.intro (fun _ h'=>SA dec M s h' (if i-a≥2 then shiftDown (jT dec) (i-1) d5 else d5)∧Upd M h h') (fun R3 q=>?_) ?_
       ·have wi:IntKind.wrap .i64 ((i:Int)-(a:Int))=((i-a:Nat):Int):=by rw[d8 (by omega)];omega
        show CondP (decide (IntKind.wrap .i64 ((i:Int)-(a:Int))≥2)) _ _
        rw[wi];refine aD (fun h6=>?_) fun h6=>?_
        ·rw[if_pos (by omega)]at q
         refine LoopP.ghost (fun(g:Nat×Array Int) (t:Int) h'=>t=(g.1:Int)∧SA dec M s h' g.2∧g.2.size=d.size∧shiftDown (jT dec) g.1 g.2=shiftDown (jT dec) (i-1) d5∧Upd M h h'∧g.1<e) (fun g=>g.1) (i-1,d5)
          ⟨by rw[d8 (by omega)];simp only;omega,C,H,rfl,x.tr hu5,by simp only;omega⟩ ?_
         rintro I4 ⟨j,d6⟩ t h7 ⟨ht,J,hz7,o,hu7,O⟩ E;simp only at ht J hz7 o O;subst ht;refine aD (fun h8=>?_) fun h8=>?_
         ·obtain⟨j,rfl⟩:∃k,j=k+1:=⟨j-1,by omega⟩
          have T:IntKind.wrap .i64 (((j+1:Nat):Int)-1)=(j:Int):=by rw[d8 (by omega)];omega
          rw[shiftDown]at o;refine J.less (i:=j+1) (j:=j) rfl T (by omega) (by omega) fun hL eL hsL kL P=>?_
          have u:=hu7.tr kL.wide;rw[P];refine CondP.intro (fun h9=>?_) fun h9=>?_
          ·rw[if_pos h9]at o
           exact q _ _ ⟨by rw[←o];exact hsL,u⟩
          ·rw[if_neg (by rw[h9];simp)]at o
           refine hsL.swap (i:=j+1) (j:=j) rfl T (by omega) (by omega) fun y hs10 hu10=>?_
           exact E (j,swp d6 (j+1) j) _ _ ⟨T,hs10,by simp[hz7],o,u.tr hu10,by simp only;omega⟩ (by simp)
         ·have:j=0:=by omega
          subst this;exact q _ _ ⟨by rw[←o];exact J,hu7⟩
        ·rw[if_neg (by omega)]at q
         exact q _ _ ⟨C,x.tr hu5⟩
       ·rintro _ h6 ⟨N,U⟩
        have D:(if i-a≥2 then shiftDown (jT dec) (i-1) d5 else d5).size=d.size:=by split<;>simp[H]
        generalize (if i-a≥2 then shiftDown (jT dec) (i-1) d5 else d5)=d6 at N D b
        have wi:IntKind.wrap .i64 ((e:Int)-(i:Int))=((e-i:Nat):Int):=by rw[d8 (by omega)];omega
        show CondP (decide (IntKind.wrap .i64 ((e:Int)-(i:Int))≥2)) _ _
        rw[wi];refine aD (fun h7=>?_) fun h7=>?_
        ·rw[if_pos (by omega)]at b
         refine LoopP.ghost (fun(g:Nat×Array Int) (t:Int) h'=>t=(g.1:Int)∧SA dec M s h' g.2∧g.2.size=d.size∧shiftUp (jT dec) e g.1 g.2=shiftUp (jT dec) e (i+1) d6∧Upd M h h'∧1≤g.1∧g.1≤e) (fun g=>e-g.1) (i+1,d6)
          ⟨by rw[d8 (by omega)];rfl,N,D,rfl,U,by simp,by simp only;omega⟩ ?_
         rintro I4 ⟨j,d7⟩ t h8 ⟨ht,F,z,m,Z,hj1,O⟩ E;simp only at ht F z m hj1 O;subst ht;refine aD (fun h9=>?_) fun h9=>?_
         ·have T:IntKind.wrap .i64 ((j:Int)-1)=((j-1:Nat):Int):=by rw[d8 (by omega)];omega
          rw[shiftUp,if_pos (by omega)]at m;refine F.less (i:=j) (j:=j-1) rfl T (by omega) (by omega) fun hL eL hsL kL P=>?_
          have u:=Z.tr kL.wide;rw[P];refine CondP.intro (fun y=>?_) fun y=>?_
          ·rw[if_pos y]at m
           exact hR _ _ ⟨i,d7,rfl,hsL,z,by rw[m];exact b,u,n,f⟩
          ·rw[if_neg (by rw[y];simp)]at m
           refine hsL.swap (i:=j) (j:=j-1) rfl T (by omega) (by omega) fun h11 W V=>?_
           exact E (j+1,swp d7 j (j-1)) _ _ ⟨by rw[d8 (by omega)];rfl,W,by simp[z],m,u.tr V,by simp,by simp only;omega⟩ (by simp only;omega)
         ·rw[shiftUp,if_neg (by omega)]at m
          exact hR _ _ ⟨i,d7,rfl,F,z,by rw[m];exact b,Z,n,f⟩
        ·rw[if_neg (by omega)]at b
         exact hR _ _ ⟨i,d6,rfl,N,D,b,U,n,f⟩
  ·rintro t h' ⟨Q,d2,rfl,w,hz2,b,hu2,n,f⟩
   exact hI (st,Q,d2) _ _ ⟨rfl,by simp only;rw[d8 (by omega)];omega,w,hz2,b,hu2,by simp only;omega,n,f⟩ (by simp)
 ·have:st=0:=by have:¬5-(st:Int)<5:=hge;omega
  subst this;rw[partialIns]at v;rw[←v]at S;exact S _ G hu1
theorem B7{x y:Nat}(u:SA dec M s h d)(hx:x<d.size)(t:y<d.size){c:Nat}{n:Int}(hc:h[c]? =some (.cells #[.int .i64 n] wK (0,0))) (f:¬M c) {K:Int×Int→ac→Prop}
  (g:∀h' (p q:Nat) m,(p=x∧q=y∨p=y∧q=x)→SA dec M s h' d→h'[c]? =some (.cells #[.int .i64 m] wK (0,0))→Upd (· =c) h h'→K ((p:Int),(q:Int)) h'):
  HC PG de [.slice s.a s.len s.cap,.int .i64 x,.int .i64 y,.pointer (some ⟨c,0,none⟩),qj] [.c (.int .i64),.c (.int .i64)] K h:=by
 refine oL s x y (some ⟨c,0,none⟩) qj ?_;unfold i1 cp mC aF bh l3;refine u.less (i:=y) (j:=x) rfl rfl t hx fun o w b k0 e=>?_
 have a:=k0.get0 hc;rw[e];refine CondP.intro (fun v=>?_) fun v=>?_
 ·refine⟨_,rfl,n,by rw[aL a];rfl,_,rfl,gn a (by simp),?_⟩
  have k:Upd (· =c) o (hset o ⟨c,0,none⟩ (.int .i64 (IntKind.wrap .i64 (n+1)))):=Upd.hset _ _ rfl
  refine g _ y x (IntKind.wrap .i64 (n+1)) (.inr ⟨rfl,rfl⟩) (b.updC k f) ?_ (k0.wide.tr k);rw[qP a,fF a];rfl
 ·exact g _ x y _ (.inl ⟨rfl,rfl⟩) b a k0.wide
theorem Hd{x y z:Nat}(D:SA dec M s h d)(hx:x<d.size)(B:y<d.size)(C:z<d.size){c:Nat}{n:Int}(hc:h[c]? =some (.cells #[.int .i64 n] wK (0,0))) (a:¬M c) {K:Int→ac→Prop}
  (E:∀h' (p:Nat) m,(p=x∨p=y∨p=z)→SA dec M s h' d→h'[c]? =some (.cells #[.int .i64 m] wK (0,0))→Upd (· =c) h h'→K (p:Int) h'):
  HC PG dQ [.slice s.a s.len s.cap,.int .i64 x,.int .i64 y,.int .i64 z,.pointer (some ⟨c,0,none⟩),qj] [.c (.int .i64)] K h:=by
 refine oM s x y z (some ⟨c,0,none⟩) qj ?_;unfold i5;refine B7 D hx B hc a fun N F w Q R b i f=>?_
 have t:w<d.size:=by omega
 have j:F<d.size:=by omega
 refine B7 b t C i a fun S G P O J g k q=>?_
 have e:G<d.size:=by omega
 refine B7 g j e k a fun L I A H T o v u=>?_
 exact E _ A H (by omega) o v ((f.tr q).tr u)
theorem vX{x:Nat}(g:SA dec M s h d)(t:1≤x)(hx:x+1<d.size){c:Nat}{n:Int}(hc:h[c]? =some (.cells #[.int .i64 n] wK (0,0))) (f:¬M c) {K:Int→ac→Prop}
  (i:∀h' (p:Nat) m,(x-1≤p∧p≤x+1)→SA dec M s h' d→h'[c]? =some (.cells #[.int .i64 m] wK (0,0))→Upd (· =c) h h'→K (p:Int) h'):
  HC PG cx [.slice s.a s.len s.cap,.int .i64 x,.pointer (some ⟨c,0,none⟩),qj] [.c (.int .i64)] K h:=by
 refine kI s x (some ⟨c,0,none⟩) qj ?_;unfold fP;have o:=g.small;have j:IntKind.wrap .i64 ((x:Int)-1)=((x-1:Nat):Int):=by rw[d8 (by omega)];omega
 have k:IntKind.wrap .i64 ((x:Int)+1)=((x+1:Nat):Int):=by rw[d8 (by omega)];omega
 rw[j,k];exact Hd g (by omega) (by omega) hx hc f fun h' p m q b e a=>i h' p m (by omega) b e a
theorem Fz{a e:Nat}(J:SA dec M s h d)(ha:a<e)(he:e≤d.size){K:Int×Int→ac→Prop}
  (z:∀h' (p:Nat) (n:Int),a≤p→p<e→SA dec M s h' d→Upd No h h'→K ((p:Int),n) h'):
  HC PG eg [.slice s.a s.len s.cap,.int .i64 a,.int .i64 e,qj] [.c (.int .i64),.c (.int .i64)] K h:=by
 refine lW s a e qj ?_;unfold gL;have Y:=J.small;have k0:=Upd.hnew No h [.int .i64 0] wK;have i:=bE h [.int .i64 0] wK;have o:=J.upd0 k0;have j:¬M h.size:=fun B=>by have:=J.lt _ B;omega
 simp only[At];generalize hnew h [.int .i64 0] wK=h0 at k0 i o;have wl:IntKind.wrap .i64 ((e:Int)-(a:Int))=((e-a:Nat):Int):=by rw[d8 (by omega)];omega
 have V:IntKind.wrap .i64 (mr ((e-a:Nat):Int) 4)=(((e-a)/4:Nat):Int):=by
  rw[mq (by omega),d8 (by omega)];omega
 have wm:∀k:Nat,k≤3→IntKind.wrap .i64 (((((e-a)/4:Nat):Int))*(k:Int))=(((e-a)/4*k:Nat):Int):=fun k z=>by
  rw[Int.natCast_mul,d8];have:(e-a)/4*k≤1000000000*3:=Nat.mul_le_mul (by omega) z;have:(((e-a)/4*k:Nat):Int)=(((e-a)/4:Nat):Int)*(k:Int):=Int.natCast_mul ..;omega
 have S:=wm 1 (by omega);have T:=wm 2 (by omega);have Q:=wm 3 (by omega);simp only[Int.cast_ofNat_Int]at S T Q;simp only[Bd,wl,V];have H:IntKind.wrap .i64 ((((e-a)/4:Nat):Int)*1)=(((e-a)/4*1:Nat):Int):=S;have E:IntKind.wrap .i64 ((((e-a)/4:Nat):Int)*2)=(((e-a)/4*2:Nat):Int):=T;have D:IntKind.wrap .i64 ((((e-a)/4:Nat):Int)*3)=(((e-a)/4*3:Nat):Int):=Q;rw[H,E,D];have F:∀k:Nat,k≤3→IntKind.wrap .i64 ((a:Int)+(((e-a)/4*k:Nat):Int))=((a+(e-a)/4*k:Nat):Int):=fun k z=>by
  have:(e-a)/4*k≤(e-a)/4*3:=Nat.mul_le_mul_left _ z;rw[d8 (by omega)];omega
 refine⟨by decide,by decide,by decide,?_⟩
 refine Join.intro (fun t h'=>∃p:Nat,t=(p:Int)∧a≤p∧p<e∧SA dec M s h' d∧Upd No h h'∧∃m,h'[h.size]? =some (.cells #[.int .i64 m] wK (0,0))) (fun R P=>?_) ?_
 ·rw[F 1 (by omega),F 2 (by omega),F 3 (by omega)]
  refine aD (fun U=>?_) fun U=>?_
  ·have U:8≤e-a:=by omega
   refine Join.intro (fun t h'=>∃p q r:Nat,t=((p:Int),(q:Int),(r:Int))∧(a≤p∧p<e)∧(a≤q∧q<e)∧(a≤r∧r<e)∧SA dec M s h' d∧Upd No h h'∧∃m,h'[h.size]? =some (.cells #[.int .i64 m] wK (0,0))) (fun R2 A=>?_) ?_
   ·refine aD (fun C=>?_) fun C=>?_
    ·have C:50≤e-a:=by omega
     refine vX o (by omega) (by omega) i j fun O p1 m1 e1 c g f=>?_
     refine vX c (by omega) (by omega) g j fun h2 L Z X v x y=>?_
     refine vX v (by omega) (by omega) x j fun h3 W m3 e3 G N I=>?_
     exact A _ _ ⟨p1,L,W,rfl,by omega,by omega,by omega,G,k0.trans ((f.tr y).tr I) fun b B=>.inr (di B.symm),_,N⟩
    ·exact A _ _ ⟨_,_,_,rfl,by omega,by omega,by omega,o,k0,_,i⟩
   ·rintro t O ⟨p,q,r,rfl,hp,hq,hr,c,f,m,g⟩
    refine Hd c (by omega) (by omega) (by omega) g j fun h2 L Z X v x y=>?_
    exact P _ _ ⟨L,rfl,by omega,by omega,v,f.trans y fun b B=>.inr (di B.symm),_,x⟩
  ·exact P _ _ ⟨_,rfl,by omega,by omega,o,k0,_,i⟩
 ·rintro t O ⟨p,rfl,w,u,c,f,m,g⟩
  refine⟨m,by rw[cr,aL g];rfl,CondP.intro (fun _=>z _ p _ w u c f) fun _=>CondP.intro (fun _=>z _ p _ w u c f) fun _=>z _ p _ w u c f⟩
end Go.Proofs
namespace Go.Proofs
open Go Go.Lift Go.Sort
variable {dec:Int→Ch} {M:Nat→Prop} {s:SliceV} {h:ac} {d:Array Int}
theorem Rm(x:Int):IntKind.wrap .u64 x=x%18446744073709551616:=by
 simp[IntKind.wrap,IntKind.bits,IntKind.signed]
theorem and_le_right(x:Int){m:Int}(a:0≤m)(hm:m<18446744073709551616):0≤IntKind.wrap .u64 ((ak (IntKind.bits .u64) x&&&ak (IntKind.bits .u64) m).toNat:Int)∧IntKind.wrap .u64 ((ak (IntKind.bits .u64) x&&&ak (IntKind.bits .u64) m).toNat:Int)≤m:=by
 have c:(ak (IntKind.bits .u64) x&&&ak (IntKind.bits .u64) m).toNat≤(ak (IntKind.bits .u64) m).toNat:=by
  rw[BitVec.toNat_and];exact Nat.and_le_right
 have b:((ak (IntKind.bits .u64) m).toNat:Int)=m:=by
  show((ak 64 m).toNat:Int)=m
  rw[BitVec.toNat_ofInt];have:m%((2^64:Nat):Int)=m:=Int.emod_eq_of_lt a (by omega);rw[this];omega
 rw[Rm];omega
theorem LX{n:Nat}(d:1≤n)(f:n≤1000000000){K:Int→ac→Prop}(b:∀m:Nat,1≤m→m≤2*n→K (m:Int) h):HC PG jU [.int .i64 n] [.c (.int .u64)] K h:=by
 refine vj n ?_;unfold o9;rw[show IntKind.wrap .u64 (n:Int)=(n:Int) by rw[Rm];omega]
 refine P2 (by omega) fun L g c=>⟨by omega,?_⟩
 have:=c d;have e:IntKind.wrap .u64 (1*2^(min ((L:Int)).toNat (IntKind.bits .u64)))=((2^L:Nat):Int):=by
  rw[Rm,show min ((L:Int)).toNat (IntKind.bits .u64)=L by simp[IntKind.bits];omega,Int.one_mul]
  have a:(2:Int)^L=((2^L:Nat):Int):=by simp
  rw[a];generalize 2^L=P at this⊢;omega
 rw[e];exact b _ (Nat.one_le_two_pow) this
theorem Jo{c:Nat}{n:Int}{t:TypeId}(hc:h[c]? =some (.cells #[.int .u64 n] t (0,0))) {K:Int→ac→Prop}
  (k:∀h' m,h'[c]? =some (.cells #[.int .u64 m] t (0,0))→Upd (· =c) h h'→K m h'):HC PG kE [.pointer (some ⟨c,0,none⟩)] [.c (.int .u64)] K h:=by
 refine wD (some ⟨c,0,none⟩) ?_;unfold pG;have set:∀{h:ac} {n:Int} (m:Int),h[c]? =some (.cells #[.int .u64 n] t (0,0))→(hset h ⟨c,0,none⟩ (.int .u64 m))[c]? =some (.cells #[.int .u64 m] t (0,0))∧Upd (· =c) h (hset h ⟨c,0,none⟩ (.int .u64 m))∧Wr h ⟨c,0,none⟩:=fun m hc=>by
  refine⟨?_,Upd.hset _ _ rfl,gn hc (by simp)⟩;rw[qP hc,fF hc];rfl
 have a:∀{h:ac} {n:Int},h[c]? =some (.cells #[.int .u64 n] t (0,0))→aI h ⟨c,0,none⟩=some (.int .u64 n):=fun hc=>by rw[aL hc];rfl
 refine⟨_,rfl,_,a hc,_,rfl,_,a hc,by omega,_,rfl,?_⟩
 obtain⟨d,k1,o⟩:=set _ hc;refine⟨o,_,rfl,_,a d,_,rfl,_,a d,by omega,_,rfl,?_⟩
 obtain⟨b,f,i⟩:=set _ d;refine⟨i,_,rfl,_,a b,_,rfl,_,a b,by omega,_,rfl,?_⟩
 obtain⟨e,g,j⟩:=set _ b;exact⟨j,_,rfl,_,a e,k _ _ e ((k1.tr f).tr g)⟩
theorem Ct{a e:Nat}(B:SA dec M s h d)(ha:a≤e)(he:e≤d.size){K:Unit→ac→Prop}(P:∀h' d',SA dec M s h' d'→PermIn a e d d'→Upd M h h'→K () h'):
  HC PG dT [.slice s.a s.len s.cap,.int .i64 a,.int .i64 e,qj] [] K h:=by
 refine kW s a e qj ?_;unfold ga aZ cp aF bh jr gQ;have U:=B.small;have wl:IntKind.wrap .i64 ((e:Int)-(a:Int))=((e-a:Nat):Int):=by rw[d8 (by omega)];omega
 rw[wl];refine aD (fun O=>?_) fun O=>P h d B (permIn_refl ..) (Upd.refl _ _)
 have O:8≤e-a:=by omega
 have k0:=Upd.hnew No h [.int .u64 0] g9;have b:=bE h [.int .u64 0] g9;have u:=B.upd0 k0;have f:¬M h.size:=fun hb=>by have:=B.lt _ hb;omega
 simp only[At,cr];generalize hnew h [.int .u64 0] g9=h0 at k0 b u;refine⟨gn b (by simp),?_⟩;have k1:Upd (· =h.size) h0 (hset h0 ⟨h.size,0,none⟩ (.int .u64 (IntKind.wrap .u64 ((e-a:Nat):Int)))):=Upd.hset _ _ rfl
 have v:(hset h0 ⟨h.size,0,none⟩ (.int .u64 (IntKind.wrap .u64 ((e-a:Nat):Int))))[h.size]? =some (.cells #[.int .u64 (IntKind.wrap .u64 ((e-a:Nat):Int))] g9 (0,0)):=by
  rw[qP b,fF b];rfl
 have p:=u.updC k1 f;generalize hset h0 ⟨h.size,0,none⟩ (.int .u64 (IntKind.wrap .u64 ((e-a:Nat):Int)))=h1 at k1 v p;refine LX (by omega) (by omega) fun m hm1 Z=>⟨by decide,?_⟩
 have S:IntKind.wrap .i64 (IntKind.wrap .i64 (mr ((e-a:Nat):Int) 4)*2)=(((e-a)/4*2:Nat):Int):=by
  rw[mq (by omega),d8 (x:=((e-a:Nat):Int)/4) (by omega),d8 (by omega)];omega
 simp only[Bd];rw[S];have W:IntKind.wrap .i64 (IntKind.wrap .i64 ((a:Int)+(((e-a)/4*2:Nat):Int))-1)=((a+(e-a)/4*2-1:Nat):Int):=by
  rw[d8 (x:=(a:Int)+_) (by omega),d8 (by omega)];omega
 have w2:IntKind.wrap .i64 (IntKind.wrap .i64 ((a:Int)+(((e-a)/4*2:Nat):Int))+1)=((a+(e-a)/4*2+1:Nat):Int):=by
  rw[d8 (x:=(a:Int)+_) (by omega),d8 (by omega)];omega
 rw[W];refine LoopP.ghost (fun(g:Nat×Array Int) (t:Int) h'=>t=(g.1:Int)∧SA dec M s h' g.2∧PermIn a e d g.2∧Upd M h h'∧(∃n,h'[h.size]? =some (.cells #[.int .u64 n] g9 (0,0)))∧a+(e-a)/4*2-1≤g.1∧g.1≤a+(e-a)/4*2+2) (fun g=>a+(e-a)/4*2+2-g.1) (a+(e-a)/4*2-1,d)
  ⟨rfl,p,permIn_refl ..,k0.wide.trans k1 fun x hx=>.inr (by omega),⟨_,v⟩,al _,by simp only;omega⟩ ?_
 rintro I ⟨i,A⟩ t h2 ⟨L,k,c,y,⟨n2,E⟩,C,D⟩ Q;simp only at L k c C D;subst L;have hz:A.size=d.size:=c.1;refine⟨by decide,?_⟩;rw[w2];refine aD (fun H=>?_) fun X=>P h2 A k c y
 have H:i≤a+(e-a)/4*2+1:=by omega
 refine Jo E fun T r J z=>?_
 have F:=k.updC z f;have wm:IntKind.wrap .u64 ((m:Int)-1)=((m-1:Nat):Int):=by rw[Rm];omega
 rw[wm];obtain⟨a0,a1⟩:=and_le_right r (m:=((m-1:Nat):Int)) (by omega) (by omega);generalize IntKind.wrap .u64 ((ak (IntKind.bits .u64) r&&&ak (IntKind.bits .u64) ((m-1:Nat):Int)).toNat:Int)=o at a0 a1;have Y:IntKind.wrap .i64 o=o:=d8 (by omega);refine Join.intro (fun t h'=>h'=T∧∃q:Nat,t=(q:Int)∧q<e-a) (fun R N=>?_) ?_
 ·show CondP (decide (IntKind.wrap .i64 o≥((e-a:Nat):Int))) _ _
  rw[Y];refine aD (fun V=>N _ _ ⟨rfl,(o-((e-a:Nat):Int)).toNat,?_,by omega⟩) fun V=>N _ _ ⟨rfl,o.toNat,by omega,by omega⟩
  show IntKind.wrap .i64 (o-((e-a:Nat):Int))=_
  rw[d8 (by omega)];omega
 ·rintro t h' ⟨rfl,q,rfl,hq⟩
  have wj:IntKind.wrap .i64 ((a:Int)+(q:Int))=((a+q:Nat):Int):=by rw[d8 (by omega)];omega
  refine F.swap (i:=i) (j:=a+q) rfl wj (by omega) (by omega) fun h5 G w=>?_
  refine Q (i+1,swp A i (a+q)) _ _ ⟨by rw[d8 (by omega)];rfl,G,permIn_trans _ _ _ _ _ c (swp_permIn A a e i (a+q) (by omega) (by omega) (by omega) (by omega) (by omega)),?_,⟨r,w.get J f⟩,by simp only;omega,by simp only;omega⟩ (by simp only;omega)
  exact(y.trans z fun x hx=>.inr (by omega)).tr w
end Go.Proofs
namespace Go.Proofs
open Go Go.Lift Go.Sort
variable {dec:Int→Ch} {M:Nat→Prop} {s:SliceV} {h:ac} {d:Array Int}
theorem PC:SWO (jT dec):=⟨fun x=>woG.irr _,fun x y z b a=>by
 unfold jT RW at*
 exact decide_eq_true (gU (of_decide_eq_true b) (of_decide_eq_true a)),fun x y z b a=>woG.ntr _ _ _ b a⟩
theorem Tn:∀(n:Nat) {a e:Nat} {Y:Int} {h:ac} {d:Array Int} {K:Unit→ac→Prop},e-a=n→SA dec M s h d→a≤e→e≤d.size→Go.Sort.Below (jT dec) a e d→
  (∀h' d',SA dec M s h' d'→PermIn a e d d'→SortedIn (jT dec) a e d'→Upd M h h'→K () h')→HC PG cT [.slice s.a s.len s.cap,.int .i64 a,.int .i64 e,.int .i64 Y,qj] [] K h:=by
 intro n;induction n using Nat.strongRecOn with
 |_ n ih=>
 intro a e Y h d K hn hs ha he hB hk;refine nV s a e Y qj ?_;unfold iK aZ cp mC aF bh l3;have hsm:=hs.small;refine LoopP.ghost (fun(g:Nat×Nat×Array Int) (t:Int×Int×Int×Bool×Bool) h'=>t.1=(g.1:Int)∧t.2.1=(g.2.1:Int)∧SA dec M s h' g.2.2∧g.2.2.size=d.size∧(a≤g.1∧g.1≤g.2.1∧g.2.1≤e)∧Go.Sort.Below (jT dec) g.1 g.2.1 g.2.2∧
   (∀R,PermIn g.1 g.2.1 g.2.2 R→SortedIn (jT dec) g.1 g.2.1 R→PermIn a e d R∧SortedIn (jT dec) a e R)∧Upd M h h') (fun g=>g.2.1-g.1) (a,e,d)
  ⟨rfl,rfl,hs,rfl,⟨al _,ha,al _⟩,hB,fun R h1 h2=>⟨h1,h2⟩,Upd.refl _ _⟩ ?_
 rintro I ⟨b,c,d1⟩ ⟨t1,t2,l1,wb,wp⟩ h1 ⟨Q,ht2,G,O,⟨haa,u,Z⟩,hB1,f,P⟩ hI;simp only at Q ht2 G O haa u Z hB1 f;subst Q ht2;have w:c≤d1.size:=by omega
 have wl:IntKind.wrap .i64 ((c:Int)-(b:Int))=((c-b:Nat):Int):=by rw[d8 (by omega)];omega
 simp only;rw[wl];refine aD (fun hle=>?_) fun hgt=>?_
 ·refine Mf G u w fun h2 o k=>?_
  obtain⟨p1,p2⟩:=insertionSort_holds PC d1 b c u w;obtain⟨q1,q2⟩:=f _ p1 p2;exact hk _ _ o q1 q2 (P.tr k)
 have hgt:12<c-b:=by omega
 refine CondP.intro (fun _=>?_) fun _=>?_
 ·refine Kl G u w fun h2 o k=>?_
  obtain⟨p1,p2⟩:=heapSort_holds PC d1 b c u w;obtain⟨q1,q2⟩:=f _ p1 p2;exact hk _ _ o q1 q2 (P.tr k)
 refine Join.intro (fun _ h'=>∃V,SA dec M s h' V∧PermIn b c d1 V∧Upd M h h') (fun R A=>?_) ?_
 ·refine CondP.intro (fun _=>?_) fun _=>A _ _ ⟨d1,G,permIn_refl ..,P⟩
  exact Ct G u w fun h2 V o B k=>A _ _ ⟨V,o,B,P.tr k⟩
 rintro lim2 h2 ⟨V,o,B,k⟩;have hz2:V.size=d.size:=by rw[B.1,O]
 refine Fz o (by omega) (by omega) fun h3 p hn1 hpa hpe hs3 hu3=>?_
 refine Join.intro (fun t h'=>∃(q:Nat) (d3:Array Int),t.1=(q:Int)∧b≤q∧q<c∧SA dec M s h' d3∧PermIn b c d1 d3∧Upd M h h') (fun R A=>?_) ?_
 ·refine CondP.intro (fun _=>?_) fun _=>A _ _ ⟨p,V,rfl,hpa,hpe,hs3,B,k.tr hu3.wide⟩
  refine JM hs3 (by omega) (by omega) fun h4 U z=>A _ _ ⟨c-1-(p-b),_,?_,by omega,by omega,U,permIn_trans _ _ _ _ _ B (reverseRange_holds V b c u (by omega)),(k.tr hu3.wide).tr z⟩
  show IntKind.wrap .i64 (IntKind.wrap .i64 ((c:Int)-1)-IntKind.wrap .i64 ((p:Int)-(b:Int)))=_
  rw[d8 (x:=(c:Int)-1) (by omega),d8 (x:=(p:Int)-(b:Int)) (by omega),d8 (by omega)];omega
 rintro⟨q1,hint⟩ h4 ⟨q,d3,hq,S,N,U,C,z⟩;simp only at hq;subst hq;have hz3:d3.size=d.size:=by rw[C.1,O]
 have hB3:Go.Sort.Below (jT dec) b c d3:=hB1.perm w C;refine Join.intro (fun _ h'=>∃L,SA dec M s h' L∧PermIn b c d1 L∧Upd M h h') (fun R A=>?_) ?_
 ·refine Join.intro (fun _ h'=>h'=h4) (fun R2 hR2=>CondP.intro (fun _=>CondP.intro (fun _=>hR2 _ _ rfl) fun _=>hR2 _ _ rfl) fun _=>hR2 _ _ rfl) ?_
  rintro _ h5 rfl;refine CondP.intro (fun _=>?_) fun _=>A _ _ ⟨d3,U,C,z⟩
  refine Ge U (by omega) (by omega) fun h6 J y=>?_
  obtain⟨p1,p2⟩:=partialInsertionSort_holds PC d3 b c (by omega) (by omega) hB3;refine CondP.intro (fun hb=>?_) fun _=>A _ _ ⟨_,J,permIn_trans _ _ _ _ _ C p1,z.tr y⟩
  obtain⟨W,X⟩:=f _ (permIn_trans _ _ _ _ _ C p1) (p2 hb);exact hk _ _ J W X (z.tr y)
 rintro _ h5 ⟨L,hs5,E,hu5⟩;have hz4:L.size=d.size:=by rw[E.1,O]
 have hB4:Go.Sort.Below (jT dec) b c L:=hB1.perm w E;refine Join.intro (fun t h'=>SA dec M s h' L∧Upd No h5 h'∧(t=true→0<b∧(jT dec) L[b-1]! L[q]! =false)) (fun R A=>?_) ?_
 ·refine aD (fun h6=>?_) fun _=>A _ _ ⟨hs5,Upd.refl _ _,fun e=>by cases e⟩
  refine hs5.less (i:=b-1) (j:=q) (by rw[d8 (by omega)];omega) rfl (by omega) (by omega) fun hL eL hsL kL heL=>A _ _ ⟨hsL,kL,fun e=>⟨by omega,by rw[heL]at e;simpa using e⟩⟩
 rintro t h6 ⟨J,k6,ht⟩;have y:=hu5.tr k6.wide;refine CondP.intro (fun Q=>?_) fun _=>?_
 ·obtain⟨h7,h8⟩:=ht Q
  refine Oi J S N (by omega) fun h9 v T=>?_
  cases hx:partitionEqual (jT dec) L b c q with
  |mk mid d5=>
   rw[hx]at v;obtain⟨m1,m2,m3,m4,m5⟩:=round_eq PC (partitionEqual_holds _) h7 S N (by omega) hB4 h8 hx;refine hI (mid,c,d5) _ _ ⟨rfl,rfl,v,by simp only;omega,⟨by simp only;omega,m2,Z⟩,m4,fun R W X=>?_,y.tr T⟩ (by simp only;omega)
   obtain⟨x1,x2⟩:=m5 R W X;exact f R (permIn_trans _ _ _ _ _ E x1) x2
 ·refine RL J S N (by omega) fun h9 v T=>?_
  cases hx:partition (jT dec) L b c q with
  |mk mid r=>
   obtain⟨ap,d5⟩:=r;rw[hx]at v;obtain⟨m1,m2,m3,m4,m5,m6,m7⟩:=round_part PC (partition_holds _) S N (by omega) hB4 hx;simp only at v⊢;refine⟨by decide,?_⟩;have w1:IntKind.wrap .i64 ((mid:Int)-(b:Int))=((mid-b:Nat):Int):=by rw[d8 (by omega)];omega
   have w2:IntKind.wrap .i64 ((c:Int)-(mid:Int))=((c-mid:Nat):Int):=by rw[d8 (by omega)];omega
   have w3:IntKind.wrap .i64 ((mid:Int)+1)=((mid+1:Nat):Int):=by rw[d8 (by omega)];omega
   rw[w1,w2,w3];refine aD (fun _=>?_) fun _=>?_
   ·refine ih (mid-b) (by omega) rfl v m1 (by omega) m4 fun h10 d6 D m F H=>?_
    obtain⟨y1,y2⟩:=m6 d6 m F;have hz6:=m.1;refine hI (mid+1,c,d6) _ _ ⟨rfl,rfl,D,by simp only;omega,⟨by simp only;omega,by simp only;omega,Z⟩,y1,fun R W X=>?_,(y.tr T).tr H⟩ (by simp only;omega)
    obtain⟨x1,x2⟩:=y2 R W X;exact f R (permIn_trans _ _ _ _ _ E x1) x2
   ·refine ih (c-(mid+1)) (by omega) rfl v (by omega) (by omega) m5 fun h10 d6 D m F H=>?_
    obtain⟨y1,y2⟩:=m7 d6 m F;have hz6:=m.1;refine hI (b,mid,d6) _ _ ⟨rfl,rfl,D,by simp only;omega,⟨haa,m1,by simp only;omega⟩,y1,fun R W X=>?_,(y.tr T).tr H⟩ (by simp only;omega)
    obtain⟨x1,x2⟩:=y2 R W X;exact f R (permIn_trans _ _ _ _ _ E x1) x2
theorem EW{d a:Array Int}(b:PermIn 0 d.size d a):a.toList.Perm d.toList:=by
 have:=b.2.2;have c:a.extract 0 d.size=a:=by rw[←b.1];simp
 rw[c]at this;simpa using this
theorem PF{M:Nat→Prop}{h:ac}{s:SliceV}{L X:List Ch}(q:OwnS Jm 5 co M h s L)(t:L.Perm X)(u:FJ X)(E:L.length≤100000000)(D:∀b,M b→b<h.size){K:Unit→ac→Prop}(B:∀h',OwnS Jm 5 co M h' s X→Upd M h h'→K () h'):
  HC PG cN [.slice s.a s.len s.cap,.func (.func o8) #[] #[]] [] K h:=by
 refine j1 s _ ?_;unfold fz;have g:=q.len;rw[Go.IntWalk.u64_in _ (by omega)];refine P2 (by omega) fun F _ _=>?_
 let dec:Int→Ch:=fun i=>L[i.toNat]?.getD (⟨#[]⟩,⟨#[]⟩,⟨#[]⟩,false,false)
 let d:Array Int:=((fq L.length).map fun i:Nat=>(i:Int)).toArray
 have hd:d.toList.map dec=L:=by
  apply List.ext_getElem?;intro i;rw[List.getElem?_map];show(((fq L.length).map fun i:Nat=>(i:Int))[i]?).map dec=_
  rw[List.getElem?_map];by_cases hi:i<L.length
  ·rw[List.getElem?_range hi,aj hi]
   show some (L[((i:Int)).toNat]?.getD _)=_
   rw[Int.toNat_natCast,aj hi];rfl
  ·rw[lG (by rw[List.length_range];omega),lG (by omega)];rfl
 have y:d.size=L.length:=by simp[d]
 have A:SA dec M s h d:=⟨by rw[hd];exact q,by omega,D⟩
 have v:((s.len:Nat):Int)=((d.size:Nat):Int):=by rw[y,g]
 rw[v];refine Tn (a:=0) (e:=d.size) _ rfl A (bS _) (al _) (.inl rfl) fun h' c n f w x=>?_
 have o:=EW f;have C:(c.toList.map dec).Perm L:=by
  have:=o.map dec;rw[hd]at this;exact this
 have z:Srt RW (c.toList.map dec):=by
  unfold Srt;rw[List.pairwise_map,bZ];intro i j hi p k;have m:=f.1;have:=w i j (bS _) k (by rw[←m];simpa using p);rw[getElem!_pos c j (by simpa using p),getElem!_pos c i (by simpa using hi)]at this;have this:RW (dec c[j]) (dec c[i])=false:=this;simpa only[Array.getElem_toList]using this
 have:=PE (C.trans t) z u;subst this;exact B h' n.own x
end Go.Proofs
namespace Go.Proofs
open Go Go.Lift
theorem Ms{W W':Nat→Prop}{x j:Hs}{h:ac}{kind a:Int}{t u:Tr}{l l':List Pr}(i:TreeIs W h kind x t l)(o:TreeIs W' h a j u l')(c:bV l)(m:Fit l)(n:l.length≤60000)(b:bV l')(f:Fit l')(e:l'.length≤60000){K:SliceV×Int→ac→Prop}
  (p:qN t u=false→∀h',Upd No h h'→K (⟨none,0,0⟩,11) h')(d:qN t u=true→∀h' s',OwnS Jm 5 co (fun y=>h.size≤y) h' s' (im l l')→Upd No h h'→K (s',0) h'):HC PG vd [Aj t,Aj u] [.c .slice,.c (.int .i64)] K h:=
 Mr i o c m n b f e (fun _ {_ _ _ _ _} k q g d=>PF k g (ES c b) (by have:=g.length_eq;have:=tT c b;omega) q d) p d
end Go.Proofs
namespace Go.Proofs
open Go Go.Lift
theorem Few.mono{n m:Nat}{L:List Pr}(f:Few n L)(h:n≤m):Few m L:=⟨f.up,bI f.len h,f.fit⟩
end Go.Proofs
namespace Go.Proofs
open Go Go.Lift
theorem JQ{W:Nat→Prop}{h:ac}{b:Nat}{l:List Pr}(t:RadAt W h b l)(hW:∀y,W y→y<h.size)(hr:bV l)(k:ByteArray){K:ByteArray×Bool→ac→Prop}
  (V:∀h',Upd No h h'→K ((look l k).getD ⟨#[]⟩,(look l k).isSome) h'):HC PG xF [.pointer (some ⟨b,0,none⟩),.string k] [.c .str,.c .bool] K h:=by
 refine KL (some ⟨b,0,none⟩) k ?_;unfold DC aZ cp aF m8 bR Eu;refine BV (.inr ⟨b,rfl,t⟩) hW fun h2 b2 t2 hu2 _=>?_
 obtain⟨w,F,r1,r2,r3⟩:=t2.ex;have d:∀v,vi w F k.data.toList v↔look l k=some v:=fun v=>by
  rw[←md,r3];constructor
  ·rintro⟨p,Z,e1,rfl⟩
   rw[←sR.1 e1];exact Cb hr Z
  ·intro Z;exact⟨_,xr Z,rfl,rfl⟩
 refine LoopP.ghost (fun(g:ByteArray×Nat×ByteArray×Option ByteArray×Fo) (t:ByteArray×Option Addr) h'=>t=(g.1,some ⟨g.2.1,0,none⟩)∧RxN W h' g.2.1 g.2.2.1 g.2.2.2.1 g.2.2.2.2∧g8 g.2.2.2.2∧(∀v,vi g.2.2.2.1 g.2.2.2.2 g.1.data.toList v↔look l k=some v)∧Upd No h h') (fun g=>g.1.size) (k,b2,⟨#[]⟩,w,F) ⟨rfl,r1,r2,d,hu2⟩ ?_
 clear d r1 r2 r3 t2;rintro I ⟨E,c,sl,w,F⟩ t h5 ⟨rfl,r,hc,d,hu⟩ hI;simp only at r hc d;simp only[fw];by_cases N:E=⟨#[]⟩
 ·subst N
  refine ai.2 (JI r ?_);have e:look l k=w:=Option.ext fun v=>by
   rw[←d v];constructor
   ·rintro(⟨_,h⟩|h)
    ·exact h
    ·exact absurd rfl (vY hc h)
   ·intro h;exact .inl ⟨rfl,h⟩
  rw[e]at V;exact V _ hu
 ·rw[decide_eq_false N]
  refine ar.2 ?_;have u:E.data.toList≠[]:=fun e=>N (by cases E;exact congrArg wJ (Array.toList_inj.1 e))
  obtain⟨c0,X,R⟩:=Iy u;refine⟨c0,Int.le_refl _,X,?_⟩;have Y:=r;obtain⟨val,s,ow,ks,hb,_,hs,hcap,hF⟩:=r;have hL:=lH.1 hF;have D:=dM.1 hc;have o:(∀v,¬tG F E.data.toList v)→K ((⟨#[]⟩:ByteArray),false) h5:=fun A=>by
   have e:look l k=none:=by
    cases e:look l k with
    |none=>rfl
    |some v=>
     rcases(d v).2 e with⟨h,_⟩|h
     ·exact absurd h u
     ·exact absurd h (A v)
   rw[e]at V;exact V _ hu
  refine BX Y hc (c:=c0.toNat) (UInt8.toNat_lt _) fun i ok hil S L H=>?_
  rw[R]at S L H;cases ok with
  |false=>
   refine ar.2 (o fun v d=>?_)
   obtain⟨n',J,e,_⟩:=vZ hc d;obtain⟨j,U,rfl⟩:=List.getElem_of_mem J;rcases cg j i with hl|hl
   ·have:=S j U hl;omega
   ·have h1:=L j U hl
    have h2:=L i (by omega) (al _);rcases cg i j with O|O
    ·have h3:=bZ.1 D.1 i j (by omega) U O
     omega
    ·have:i=j:=by omega
     subst this;have:=H.2 ⟨U,e⟩;cases this
  |true=>
   obtain⟨hi,Q⟩:=H.1 rfl;refine ai.2 ⟨_,rfl,s,fk (i:=3) hb,?_⟩;obtain⟨kb,P,hki,C,z⟩:=hL.at hi;have q:F.toL[i]∈F.toL:=bX hi;have B:=D.2 _ q;obtain⟨a,ha,_,hvv⟩:=hs.at0 hki;have G:=hs.len;rw[hL.1]at G;have f:∀v,tG F E.data.toList v↔w9 F.toL[i] E.data.toList v:=fun v=>by
    constructor
    ·intro d
     obtain⟨n',J,e,hN⟩:=vZ hc d;rw[←yn hc J q (by omega)];exact hN
    ·intro d;exact hE.2 ⟨_,q,d⟩
   refine⟨⟨by simp only;omega,by simp only;omega⟩,a,ha,some ⟨kb,0,none⟩,hvv,_,rfl,?_⟩
   obtain⟨kval,kss,kow,kks,T,_⟩:=id z;generalize F.toL[i]=m at C z B f Q;obtain⟨lab,wk,Fk⟩:=m;simp only at C z B Q T;refine⟨P,fk (i:=0) T,Qu (fun x n=>?_) fun A=>?_⟩
   ·rw[C]at n
    have hlne:lab.length≠0:=fun e=>B.1 (aE.1 e)
    have hrl:x.size<E.size:=by
     rw[←jR x,←jR E,n,List.length_append];omega
    refine ai.2 (hI (x,kb,P,wk,Fk) _ _ ⟨rfl,z,B.2.2,fun v=>?_,hu⟩ hrl)
    rw[←d v];constructor
    ·intro h;exact .inr ((f v).2 ⟨_,n,h⟩)
    ·rintro(⟨h,_⟩|h)
     ·exact absurd h u
     ·obtain⟨r',e,hr'⟩:=(f v).1 h
      simp only at e;rw[n]at e;rw[List.append_cancel_left e];exact hr'
   ·rw[C]at A
    refine ar.2 (o fun v h=>?_)
    obtain⟨r',e,_⟩:=(f v).1 h;exact A r' e
theorem Ry{W:Nat→Prop}{x:Hs}{h:ac}{kind:Int}{t:Tr}{l:List Pr}(i:TreeIs W h kind x t l)(e:∀y,W y→y<h.size)(f:bV l)(j:l.length≤1000000)(k:ByteArray){K:Sd→ac→Prop}(g:∀h',Upd No h h'→K ((look l k).getD ⟨#[]⟩,(look l k).isSome) h'):HC PG rD [Aj t,.string k] [.c .str,.c .bool] K h:=by
 refine DZ t k ?_;unfold wS BN sx aA af qH eE;rcases i with⟨_,b,rfl,t⟩|⟨_,b,rfl,t⟩
 ·refine bi fun m b1 k1=>⟨_,vc b1 0,ai.2 ⟨_,tH b1 1 0,_,tH b1 1 1,_,tH b1 1 2,_,vc b1 4,?_⟩⟩
  exact KB (TrieAt.upd0 k1 t) (fun y a=>aC (e y a) k1.size) f j k fun d c=>g d (k1.tr c)
 ·refine bi fun m b1 k1=>⟨_,vc b1 0,ar.2 ⟨_,vc b1 5,?_⟩⟩
  exact JQ (t.upd0 k1) (fun y a=>aC (e y a) k1.size) f k fun d c=>g d (k1.tr c)
end Go.Proofs
namespace Go.Proofs
open Go Go.Lift
theorem Nu{W:Nat→Prop}{x:Hs}{h:ac}{kind:Int}{t:Tr}{l:List Pr}(i:TreeIs W h kind x t l)(o:∀y,W y→y<h.size)(m:bV l)(n:l.length≤1000000)(k:ByteArray){K:Sd→ac→Prop}(p:∀h',Upd No h h'→K (BS (look l k)) h'):HC PG tP [Aj t,.string k] [.agg [.str,.bool]] K h:=by
 refine KQ t k ?_;unfold DG ae aA af dY qH uB ay eO NP Gd;refine bi fun u b1 k1=>bi fun q b2 d=>?_
 have c1:=d.get0 b1;have a:=k1.tr d;refine⟨_,vc c1 0,_,vc c1 1,_,vc c1 2,_,vc c1 3,_,vc c1 4,_,vc c1 5,?_⟩;refine Ry (i.upd0 a) (fun y g=>aC (o y g) a.size) m n k fun s e=>?_
 refine cO (c:= [.string (⟨#[]⟩:ByteArray),.bool false]) (vs:=TO (BS (look l k))) (e.get0 b2) rfl fun j f b=>?_
 exact⟨_,vc f 0,_,vc f 1,p j ((a.tr e).own b k1.size)⟩
theorem RU{W:Nat→Prop}{x:Hs}{h:ac}{kind:Int}{t:Tr}{l:List Pr}(i:TreeIs W h kind x t l)(L:∀y,W y→y<h.size)(J:bV l)(S:Fit l)(G:l.length≤1000000)(k:ByteArray)(o:Option ByteArray)(p:k.size≤256)(C:(o.getD ⟨#[]⟩).size≤4096){K:Tr→ac→Prop}
  (U:∀h' a,TreeIs W h' kind x a (Lw l k o)→Upd No h h'→K a h'):HC PG tO [Aj t,.string k,.agg #[.string (BS o).1,.bool (BS o).2]] [.agg [.int .i64,.int .u64,.int .u64,.int .u64,.ptr,.ptr]] K h:=by
 refine KP t k (BS o) ?_;unfold DF ae aA af dY ru w6 qH uB ay CW eO Gd;refine bi fun H b1 k1=>bi fun z b2 B=>bi fun j b3 w=>?_
 have Z:=bo b1;have z2:=bo b2;have Y:=bo b3;have s1:h.size≤H.size:=k1.size;have s2:H.size≤z.size:=B.size;have V:=w.size;have b:=(k1.tr B).tr w;have c1:=w.get0 (B.get0 b1);have A:=w.get0 b2;have F:Pro W h j h.size:=.inr (by omega);have E:Pro W h j z.size:=.inr (by omega);refine Join.intro (fun _ h'=>∃a,TreeIs (Pro W h j) h' kind x a (Lw l k o)∧h'[h.size]? =some (.cells (jN a).toArray aV (0,0))∧h'[z.size]? =some (.cells (jN vH).toArray aV (0,0))∧Upd (· =h.size) j h') (fun R N=>?_) ?_
 ·have u:∀{d:ac} {a:Tr},Upd No j d→TreeIs (Pro W h j) d kind x a (Lw l k o)→sw d (some (aO h)) 0 (jN a)∧At (hH d (aO h) 0 (jN a)) (fun I=>R () I):=fun{d a} e q=>
   cO (c:=jN t) (vs:=jN a) (e.get0 c1) rfl fun I Q g=>N _ _ ⟨a,q.updM g fun y f=>.inl (by have f:y=h.size:=f;rw[f];exact F),Q,g.oth (e.get0 b3) (by omega),e.wide.tr g⟩
  cases o with
  |some v=>
   refine⟨true,vc A 1,ar.2 ⟨_,vc c1 0,_,vc c1 1,_,vc c1 2,_,vc c1 3,_,vc c1 4,_,vc c1 5,v,vc A 0,?_⟩⟩;exact Am (i.pro b) (Pro.lt L b) J G (k,v) p C fun d a q _ e=>u e q
  |none=>
   refine⟨false,vc A 1,ai.2 ⟨_,vc c1 0,_,vc c1 1,_,vc c1 2,_,vc c1 3,_,vc c1 4,_,vc c1 5,?_⟩⟩;exact Jy (i.pro b) (Pro.lt L b) J S G k p fun d a q _ e=>u e q
 ·rintro _ X ⟨a,T,n,P,D⟩
  refine⟨_,vc n 0,_,vc n 1,_,vc n 2,_,vc n 3,_,vc n 4,_,vc n 5,?_⟩;refine cO (c:=jN vH) (vs:=jN a) P rfl fun O m s=>?_
  refine⟨_,vc m 0,_,vc m 1,_,vc m 2,_,vc m 3,_,vc m 4,_,vc m 5,U O a ((T.updM s fun y f=>.inl (by have f:y=z.size:=f;rw[f];exact E)).less Pro.sub) ?_⟩
  exact(b.own D (al _)).own s (by omega)
def NN(k:ByteArray)(o:Option ByteArray):Prop:=∀{W:Nat→Prop} {x:Hs} {h:ac} {kind:Int} {t:Tr} {l:List Pr},TreeIs W h kind x t l→(∀y,W y→y<h.size)→bV l→Fit l→l.length≤1000000→k.size≤256→(o.getD ⟨#[]⟩).size≤4096→∀{K:Tr→ac→Prop},
 (∀h' t',TreeIs W h' kind x t' (Lw l k o)→Upd No h h'→K t' h')→HC PG tO [Aj t,.string k,.agg #[.string (BS o).1,.bool (BS o).2]] [.agg [.int .i64,.int .u64,.int .u64,.int .u64,.ptr,.ptr]] K h
theorem T8(k:ByteArray)(o:Option ByteArray):NN k o:=fun i c e b d g a _ f=>RU i c e b d k o g a f
def TN(B T:List Pr):Prop:=∀{W W':Nat→Prop} {x x':Hs} {h:ac} {kind kind':Int} {t u:Tr},TreeIs W h kind x t B→TreeIs W' h kind' x' u T→∀{K:SliceV×Int→ac→Prop},(qN t u=false→∀h',Upd No h h'→K (⟨none,0,0⟩,11) h')→(qN t u=true→∀h' s',OwnS Jm 5 co (fun y=>h.size≤y) h' s' (im B T)→Upd No h h'→K (s',0) h')→HC PG vd [Aj t,Aj u] [.c .slice,.c (.int .i64)] K h
theorem VA{n m:Nat}{B T:List Pr}(a:Few n B)(b:Few m T)(f:n≤1000)(hm:m≤1000):TN B T:=fun i d _ e c=>Ms i d a.up a.fits (by have:=a.len;omega) b.up b.fits (by have:=b.len;omega) e c
theorem zt{p:Int}(b:0≤p)(c:p≤3):Ha p≠⟨#[]⟩:=by
 unfold Ha;have a:p=0∨p=1∨p=2∨p=3:=by omega
 rcases a with rfl|rfl|rfl|rfl<;>decide
abbrev IM(c:Cf):List Value:= [.string c.1,.string c.2.1.1,.bool c.2.1.2,.string c.2.2.1.1,.bool c.2.2.1.2,.string c.2.2.2.1,.bool c.2.2.2.2]
abbrev U4:Cf:=(⟨#[]⟩,(⟨#[]⟩,false),(⟨#[]⟩,false),(⟨#[]⟩,false))
theorem QF(c:Cf):(IM c).length=7∧0<7:=⟨rfl,by omega⟩
theorem OT{t:TypeId}{M:Nat→Prop}{h:ac}{so:SliceV}{out:List Cf}{c:Cf}{K:SliceV→ac→Prop}(e:OwnS IM 7 t M h so out)(i:∀b,h.size≤b→M b)(m:out.length+1≤100000000)
  (g:∀s' h',OwnS IM 7 t M h' s' (out++ [c])→Upd M h h'→K s' h'):
  At (hnew h (IM c) t) fun a=>∃xs,SRow a (some (aO h)) (1*7) xs∧AppP (some (IM U4)) 7 88 t so.a so.len so.cap 1 xs a K:=by
 refine bi fun a b1 k1=>?_
 have k:=bo b1;have j:OwnS IM 7 t (fun _=>True) a ⟨some (aO h),1,1⟩ [c]:=⟨rfl,QF,al _,.inr ⟨h.size,[],rfl,trivial,b1,rfl⟩⟩
 refine⟨_,(j.sl (W:=No) fun _ _ _ h=>h).srow,?_⟩
 refine AppP.own (ys:= [c]) (e.upd k1 fun _ _ h=>h) rfl rfl rfl rfl (by omega) (by simp only[List.length_singleton];omega) (i _ k1.size) fun s' h' d f=>?_
 exact g s' h' d (k1.wide.tr f)
set_option maxHeartbeats 1000000 in
theorem Dm{W:Nat→Prop}{x:Hs}{h:ac}{kind p:Int}{tb to tt:Tr}{B O T:List Pr}{nb no nt:Nat}(ib:TreeIs W h kind x tb B)(io:TreeIs W h kind x to O)(it:TreeIs W h kind x tt T)(hW:∀y,W y→y<h.size)(fB:Few nb B)(fO:Few no O)(fT:Few nt T)(lb:nb≤1000)(lo:no≤1000)(lt:nt≤1000)
  (hp0:0≤p)(hp1:p≤3)(hdf:TN B T)(hset:∀c∈im B T,NN c.1 (tk B O T p c.1).1){K:Tr×SliceV×Int→ac→Prop}
  (hk0:p=0→Cp B O T p≠[]→∀h' s',OwnS IM 7 cV (fun y=>h.size≤y) h' s' ((Cp B O T p).map (OJ B O T))→Upd No h h'→K (to,s',8) h')
  (hk:(p=0→Cp B O T p= [])→∀h' t' s',TreeIs W h' kind x t' (uF B O T p)→OwnS IM 7 cV (fun y=>h.size≤y) h' s' ((Cp B O T p).map (OJ B O T))→Upd No h h'→K (t',s',0) h'):
  HC PG wt [Aj tb,Aj to,Aj tt,.int .i64 p] [.agg [.int .i64,.int .u64,.int .u64,.int .u64,.ptr,.ptr],.c .slice,.c (.int .i64)] K h:=by
 refine ML tb to tt p ?_;unfold FU cp ae aA af dY nv w6 qH uB aF ay CW bh eO NQ jr Pp NP Gd Rh Re;refine bi fun h1 b1 k1=>bi fun h2 b2 k2=>bi fun h3 b3 k3=>bi fun h4 b4 k4=>?_
 have z1:=bo b1;have z2:=bo b2;have z3:=bo b3;have z4:=bo b4;have s1:h.size≤h1.size:=k1.size;have s2:h1.size≤h2.size:=k2.size;have s3:h2.size≤h3.size:=k3.size;have s4:=k4.size;have k04:=((k1.tr k2).tr k3).tr k4;have c0:=k4.get0 (k3.get0 (k2.get0 b1));have c1:=k4.get0 (k3.get0 b2);have c2:=k4.get0 b3;refine E2 ?_;rw[fw,decide_eq_false (zt hp0 hp1)];refine ai.2 ?_
 refine Join.intro (fun t h'=>t=false∧Upd No h4 h') (fun R U=>?_) ?_
 ·refine⟨_,vc c0 0,_,vc c0 1,_,vc c0 2,_,vc c0 3,_,vc c0 4,_,vc c0 5,_,vc c1 0,_,vc c1 1,_,vc c1 2,_,vc c1 3,_,vc c1 4,_,vc c1 5,?_⟩
  refine An (t:=tb) (u:=to) fun h5 k5=>?_
  rw[yi ib io];have Y:=k5.get0 c0;have X:=k5.get0 c2;refine ai.2 ⟨_,vc Y 0,_,vc Y 1,_,vc Y 2,_,vc Y 3,_,vc Y 4,_,vc Y 5,_,vc X 0,_,vc X 1,_,vc X 2,_,vc X 3,_,vc X 4,_,vc X 5,?_⟩;refine An (t:=tb) (u:=tt) fun h6 k6=>?_
  rw[yi ib it];exact U _ _ ⟨rfl,k5.tr k6⟩
 rintro t h50 ⟨rfl,V⟩;have Y:=V.get0 c0;have d1:=V.get0 c1;have X:=V.get0 c2;have d3:=V.get0 b4;have k050:=k04.tr V;have s50:=V.size;have nB:=fB.len;have nO:=fO.len;have nT:=fT.len;refine ai.2 ⟨_,vc Y 0,_,vc Y 1,_,vc Y 2,_,vc Y 3,_,vc Y 4,_,vc Y 5,_,vc X 0,_,vc X 1,_,vc X 2,_,vc X 3,_,vc X 4,_,vc X 5,?_⟩;refine hdf (ib.upd0 k050) (it.upd0 k050) (fun e=>by rw[yi ib it]at e;cases e) fun _ D s77 hs77 k77=>?_
 have lC:=tT fB.up fT.up;have at30:=Da fB fT;have hcC:∀c∈im B T,(c.1,(c.2.1,c.2.2.2.1),BS (look O c.1),(c.2.2.1,c.2.2.2.2))=OJ B O T c.1:=fun c hc=>by
  have e:=(QD fB.up fT.up hc).1;unfold OJ BS;rw[congrArg (·.2.1) e,congrArg (·.2.2.1) e,congrArg (·.2.2.2.1) e,congrArg (·.2.2.2.2) e]
 have hsetC:∀i (hi:i<(im B T).length),NN (im B T)[i].1 (tk B O T p (im B T)[i].1).1:=fun i hi=>hset _ (bX hi)
 have hmem:∀i (hi:i<(im B T).length),(im B T)[i]∈im B T:=fun i hi=>bX hi
 have hconK:IJ B O T p (im B T)=Cp B O T p:=rfl;have hmrg:vW B O T p O (im B T)=uF B O T p:=rfl;have fM:∀i,Few (no+((im B T).take i).length) (vW B O T p O ((im B T).take i)):=fun i=>zy fB fO fT (fun c hc=>(at30 c (List.mem_of_mem_take hc)).1) fO
 clear hset;generalize im B T=C at hs77 lC at30 hcC hmem hconK hmrg fM hsetC;have hsl:=hs77.within.sl (W:=fun y=>D.size≤y) fun y d _ hw=>by omega
 have hlen:s77.len=C.length:=hs77.len;have e1:=k77.get0 d1;have e3:=k77.get0 d3;have hz77:=k77.size;refine⟨_,vc e1 0,_,vc e1 1,_,vc e1 2,_,vc e1 3,_,vc e1 4,_,vc e1 5,?_⟩;refine To (t:=to) fun E b85 k85=>?_
 have z85:=bo b85;have s85:=k85.size;have k085:=(k050.tr k77).tr k85;have f1:=k85.get0 e1;have f3:=k85.get0 e3;have hPo:Pro W h E D.size:=.inr (by omega);have hP3:Pro W h E h3.size:=.inr (by omega);have hWP:=Pro.lt hW k085;refine LoopP.ghost (fun(g:Nat×(Nat→Prop)) (t:SliceV×Int) h'=>t.2=(g.1:Int)∧g.1≤C.length∧OwnS IM 7 cV g.2 h' t.1 ((IJ B O T p (C.take g.1)).map (OJ B O T))∧(∀y,g.2 y→E.size≤y∧y<h'.size)∧(∃tv,TreeIs (fun y=>Pro W h E y∨g.2 y) h' kind x tv (vW B O T p O (C.take g.1))∧h'[D.size]? =some (.cells (jN tv).toArray aV (0,0)))∧Upd (· =D.size) E h') (fun g=>C.length-g.1) (0,No)
  ⟨rfl,bS _,OwnS.nil QF,fun _ h=>h.elim,⟨to,(io.pro k085).less fun y d=>.inl (d.elim id fun h=>h.elim),b85⟩,Upd.refl _ _⟩ ?_
 rintro I ⟨i,S⟩ ⟨sv,ti⟩ h88 ⟨e,hi,ho,hS,⟨tv,iv,bv⟩,hu⟩ hI;simp only at e hi ho hS iv;subst e;have g1:=hu.get f1 (by show ¬h1.size=D.size;omega);have g3:=hu.get f3 (by show ¬h3.size=D.size;omega);have s88:=hu.size;have k088:Upd No h h88:=k085.own hu (by omega);refine aD (fun v=>?_) fun hge=>?_
 ·have v:i<C.length:=by simp only at v;omega
  obtain⟨a,ha,_,hv⟩:=((hsl.upd k85 fun _ h=>h.elim).upd hu fun y d=>.inl (by have d:y=D.size:=d;omega)).at (aj v)
  refine⟨⟨by simp only;omega,by simp only;omega⟩,a,ha,_,hv 0 _ rfl,_,hv 1 _ rfl,_,hv 2 _ rfl,_,hv 3 _ rfl,_,hv 4 _ rfl,?_⟩
  have fm:=fM i;have fml:=fm.len;rw[aP]at fml;have hcon:(IJ B O T p (C.take i)).length≤C.length:=bI Qy (by rw[aP];omega);have hIc:=fun S' t h'=>hI (i+1,S') t h'
  simp only[Kf v,OG v,List.map_append]at hIc;have hceq:=hcC _ (hmem i v);have hc30:=(at30 _ (hmem i v)).1;have hsc:= @hsetC i v;clear hI;generalize C[i]=c at hv hceq hc30 hIc hsc;refine Ug (c:=c) fun h96 w k96=>?_
  have s96:=k96.size;have z96:=bo w;have p1:=k96.get0 g1;have k096:=k088.tr k96;have ig:∀{h'},Upd No h96 h'→TreeIs W h' kind x to O:=fun k=>io.upd0 (k096.tr k)
  have hWg:∀{h'},Upd No h96 h'→∀y,W y→y<h'.size:=fun k y d=>aC (hW y d) (k096.tr k).size
  refine Join.intro (fun t h'=>∃b,t=⟨b,0,none⟩∧h'[b]? =some (.cells (IM (OJ B O T c.1)).toArray cV (0,0))∧Upd No h96 h') (fun R U=>?_) ?_
  ·rw[←hceq]at U
   refine⟨c.1,vc w 0,c.2.1,vc w 1,c.2.2.2.1,vc w 3,_,vc p1 0,_,vc p1 1,_,vc p1 2,_,vc p1 3,_,vc p1 4,_,vc p1 5,c.1,vc w 0,c.2.2.1,vc w 2,c.2.2.2.2,vc w 4,?_,?_⟩
   ·refine Nu (ig (Upd.refl _ _)) (hWg (Upd.refl _ _)) fO.up (by omega) c.1 fun h110 k110=>?_
    have q:=k110.get0 w;refine⟨vc q 4,vc q 2,vc q 3,vc q 1,vc q 0,bi fun h111 b111 k111=>?_⟩
    have q':=k111.get0 q;refine⟨vc q' 4,vc q' 2,vc q' 3,vc q' 1,vc q' 0,?_⟩;refine cO (c:=IM U4) (vs:=IM (c.1,(c.2.1,c.2.2.2.1),BS (look O c.1),(c.2.2.1,c.2.2.2.2))) b111 rfl fun h112 b112 hu112=>U _ _ ⟨_,rfl,b112,(k110.tr k111).own hu112 k110.size⟩
   ·refine bi fun h149 b149 G=>?_
    have q:=G.get0 w;have p2:=G.get0 p1;refine⟨vc q 4,vc q 2,vc q 0,⟨vc p2 0,vc p2 1,vc p2 2,vc p2 3,vc p2 4,vc p2 5⟩,vc q 3,vc q 1,vc q 0,?_⟩;refine Nu (ig G) (hWg G) fO.up (by omega) c.1 fun h151 k151=>?_
    have q':=k151.get0 q;refine⟨vc q' 4,vc q' 2,vc q' 3,vc q' 1,vc q' 0,?_⟩;refine cO (c:=IM U4) (vs:=IM (c.1,(c.2.1,c.2.2.2.1),BS (look O c.1),(c.2.2.1,c.2.2.2.2))) (k151.get0 b149) rfl fun N Q hu152=>U _ _ ⟨_,rfl,Q,(G.tr k151).own hu152 (al _)⟩
  rintro _ h142 ⟨bx,rfl,n,Z⟩;refine⟨_,tH n 1 0,_,tH n 1 1,_,tH n 3 0,_,tH n 3 1,_,tH n 5 0,_,tH n 5 1,?_⟩;refine P0 (b:=BS (look B c.1)) (o:=BS (look O c.1)) (t:=BS (look T c.1)) fun h150 P=>?_
  rw[Ro];have hok:∀r,yK (look B c.1) (look O c.1) (look T c.1) p=r→tk B O T p c.1=r:=fun r e=>e
  have hsz:((tk B O T p c.1).1.getD ⟨#[]⟩).size≤30:=by
   unfold tk;rcases GM (look B c.1) (look O c.1) (look T c.1) p with e|e|e
   ·rw[e];exact mf fB _
   ·rw[e];exact mf fO _
   ·rw[e];exact mf fT _
  have htk:yK (look B c.1) (look O c.1) (look T c.1) p=tk B O T p c.1:=rfl;rw[htk];generalize tk B O T p c.1=tkc at hIc hsz hsc;refine Uf (s:=BS tkc.1) fun N Q k152=>?_
  have z152:=bo Q;have f:=((k96.tr Z).tr P).tr k152;have k96152:=(Z.tr P).tr k152;have s150:h88.size≤h150.size:=((k96.tr Z).tr P).size;have s152:=f.size;have bv152:=f.get0 bv;have b96':=k96152.get0 w;have m:=(P.tr k152).get0 n;have iv152:=iv.upd0 f;refine Join.intro (fun t h'=>∃S',OwnS IM 7 cV S' h' t ((IJ B O T p (C.take i)).map (OJ B O T)++(if tkc.2=true then[]else[c.1]).map (OJ B O T))∧(∀y,S' y→E.size≤y∧y<h'.size)∧TreeIs (fun y=>Pro W h E y∨S' y) h' kind x tv (vW B O T p O (C.take i))∧Upd S N h') (fun R U=>?_) ?_
  ·refine CondP.intro (fun e=>?_) fun e=>?_
   ·have e2:tkc.2=false:=by simpa using e
    rw[e2,if_neg Bool.false_ne_true]at U;refine⟨_,vc m 0,_,vc m 1,_,vc m 2,_,vc m 3,_,vc m 4,_,vc m 5,_,vc m 6,?_⟩;refine OT (c:=OJ B O T c.1) (M:=fun y=>S y∨N.size≤y) ((ho.upd f fun _ _ h=>h).more fun _ h=>.inl h) (fun _ h=>.inr h) (by rw[cL];omega) fun s163 h164 ho164 H=>?_
    have s164:=H.size;refine U _ _ ⟨_,ho164.within,fun y d=>⟨?_,d.2⟩,?_,H.mono fun y d=>d⟩
    ·rcases d.1 with h|h
     ·exact(hS y h).1
     ·omega
    ·refine TreeIs.less (fun y d=>?_) ((iv152.less (W':=fun y=>Pro W h E y∨(S y∨N.size≤y)) fun y d=>?_).updM H fun y d=>.inl (.inr d))
     ·exact .inl (d.imp id fun h=>h.1)
     ·rcases d with h|h|h
      ·exact .inl (.inl h)
      ·exact .inl (.inr h)
      ·exact .inr h
   ·have e2:tkc.2=true:=by simpa using e
    rw[e2,if_pos rfl,List.map_nil,List.append_nil]at U;exact U _ _ ⟨S,ho.upd f fun _ _ h=>h,fun y d=>⟨(hS y d).1,by have:=(hS y d).2;omega⟩,iv152,Upd.refl _ _⟩
  rintro sv' h166 ⟨S',ho',hS',it',hu'⟩;have s166:=hu'.size;have nS:∀y,S y→E.size≤y∧y<h88.size:=hS;have j:=hu'.get bv152 fun hx=>by have:=nS _ hx;omega
  have b96'':=hu'.get b96' fun hx=>by have:=nS _ hx;omega
  have b152':=hu'.get Q fun hx=>by have:=nS _ hx;omega
  refine⟨_,vc j 0,_,vc j 1,_,vc j 2,_,vc j 3,_,vc j 4,_,vc j 5,c.1,vc b96'' 0,(BS tkc.1).1,vc b152' 0,(BS tkc.1).2,vc b152' 1,?_⟩;refine hsc it' (fun y d=>d.elim (fun h=>aC (hWP y h) (by omega)) fun h=>(hS' y h).2) fm.up fm.fits (by omega) (by omega) (by omega) fun h177 t' i177 L=>?_
  have s177:=L.size;refine cO (c:=jN tv) (vs:=jN t') (L.get0 j) rfl fun h178 b178 F=>?_
  have s178:=F.size;simp only;rw[vJ v (by omega)];refine hIc S' _ _ ⟨rfl,v,(ho'.upd L fun _ _ h=>h).upd F fun y d e=>?_,fun y d=>⟨(hS' y d).1,by have:=(hS' y d).2;omega⟩,⟨t',i177.updM F fun y d=>.inl (.inl (by have d:y=D.size:=d;rw[d];exact hPo)),b178⟩,?_⟩ (by omega)
  ·have e:y=D.size:=e
   have:=(hS' y d).1;omega
  ·refine((hu.tr f.wide).trans hu' fun y d=>.inr (nS y d).1).tr ?_
   exact L.wide.tr F
 ·have hiN:i=C.length:=by simp only at hge;omega
  subst hiN;rw[List.take_length]at ho iv;rw[hconK]at ho;rw[hmrg]at iv;have hsvl:=ho.len;rw[cL]at hsvl;have hb:(Cp B O T p= [])↔sv.len=0:=by rw[hsvl];exact aE.symm
  have ho2:OwnS IM 7 cV (fun y=>h.size≤y∧y≠h3.size) h88 sv ((Cp B O T p).map (OJ B O T)):=ho.more fun y d=>by have:=(hS y d).1;omega
  refine Join.intro (fun t h'=>t=(decide (p=0)&&decide (sv.len>0))∧h'=h88) (fun R U=>?_) ?_
  ·refine CondP.intro (fun e=>U _ _ ⟨?_,rfl⟩) fun e=>U _ _ ⟨?_,rfl⟩
   ·have e:p=0:=by simpa using e
    rw[decide_eq_true e,Bool.true_and,decide_eq_decide];simp only;omega
   ·have e:p≠0:=by simpa using e
    rw[decide_eq_false e,Bool.false_and]
  rintro t h' ⟨rfl,rfl⟩;refine CondP.intro (fun e=>?_) fun e=>?_
  ·have e:p=0∧sv.len>0:=by simpa using e
   refine⟨_,vc g1 0,_,vc g1 1,_,vc g1 2,_,vc g1 3,_,vc g1 4,_,vc g1 5,?_⟩;refine cO (c:=jN vH) (vs:=jN to) g3 rfl fun h198 A hu198=>?_
   refine⟨_,vc A 0,_,vc A 1,_,vc A 2,_,vc A 3,_,vc A 4,_,vc A 5,?_⟩;exact hk0 e.1 (fun hc=>by have:=hb.1 hc;omega) h198 sv ((ho2.upd hu198 fun y d e=>d.2 e).more fun y d=>d.1) (k088.own hu198 (by omega))
  ·have e:p=0→sv.len=0:=fun hp=>by
    rw[decide_eq_true hp,Bool.true_and]at e;have:=of_decide_eq_false e;omega
   refine⟨_,vc bv 0,_,vc bv 1,_,vc bv 2,_,vc bv 3,_,vc bv 4,_,vc bv 5,?_⟩;refine cO (c:=jN vH) (vs:=jN tv) g3 rfl fun h211 z J=>?_
   refine⟨_,vc z 0,_,vc z 1,_,vc z 2,_,vc z 3,_,vc z 4,_,vc z 5,?_⟩;exact hk (fun hp=>hb.2 (e hp)) h211 tv sv ((iv.updM J fun y d=>.inl (.inl (by have d:y=h3.size:=d;rw[d];exact hP3))).less fun y d=>.inl (.inl (.inl d))) ((ho2.upd J fun y d e=>d.2 e).more fun y d=>d.1) (k088.own J (by omega))
end Go.Proofs
namespace Go.Proofs
open Go Go.Lift
theorem Mm{f no d:Nat}{B O T:List Pr}{p:Int}(a:Few f B)(e:Few no O)(b:Few d T):Few (no+(f+d)) (uF B O T p):=by
 have h:=zy (p:=p) a e b (l:=im B T) (fun c hc=>(Da a b c hc).1) e
 exact⟨h.up,bI h.len (by have:=tT a.up b.up;have:=a.len;have:=b.len;omega),h.fit⟩
def U3(L:fp)(a b d:Int):Prop:=(∀c,UpG L a c→UpG L b c→c≤d)∧(d=0∨UpG L a d∧UpG L b d)∧0≤d
def Aa(s:VS)(a:Int)(B:TD):Prop:=(a=0∧B=(s.e,[]))∨(a≠0∧bQ s.D a=some B)
section
variable {W:Nat→Prop} {h:ac} {vp:Nat} {s:VS}
theorem GI(v:VaultAt W h vp s){id:Int}(hi:id=0∨id∈oY s.L){K:Tr×Int→ac→Prop}(a:∀B,Aa s id B→∀h',Upd No h h'→K (B.1,0) h'):HC PG iU [pV vp,.int .u32 id] [.agg [.int .i64,.int .u64,.int .u64,.int .u64,.ptr,.ptr],.c (.int .i64)] K h:=
 Pq v id (fun e h' k=>a (s.e,[]) (.inl ⟨e,rfl⟩) h' k) (fun d hd e h' k=>a d (.inr ⟨e,hd⟩) h' k) fun hd e=>absurd ((v.sub id).2 (hi.resolve_left e)) (ij.1 hd)
theorem Ll(v:VaultAt W h vp s){n m:ByteArray}{a b:Int}(ha:bQ s.B n=some a)(hb:bQ s.B m=some b){p:Int}(A:0≤p)(H:p≤3)(hn1:¬(b=0∨UpG s.L a b))(hn2:¬(a=0∨UpG s.L b a))
  {O T:TD}(hO:bQ s.D a=some O)(hT:bQ s.D b=some T){N:Nat}(Q:N≤1000)(hF:∀d∈s.D,Few N d.2.2)
  (hS:∀g B,U3 s.L a b g→Aa s g B→TN B.2 T.2∧∀c∈im B.2 T.2,NN c.1 (tk B.2 O.2 T.2 p c.1).1){K:Int×SliceV×Int→ac→Prop}
  (V:∀g B,U3 s.L a b g→Aa s g B→p=0→Cp B.2 O.2 T.2 p≠[]→∀h' s',OwnS IM 7 cV (fun y=>h.size≤y) h' s' ((Cp B.2 O.2 T.2 p).map (OJ B.2 O.2 T.2))→Upd No h h'→K (0,s',8) h')
  (hk:∀g B,U3 s.L a b g→Aa s g B→(p=0→Cp B.2 O.2 T.2 p= [])→∀h' t' s',OwnS IM 7 cV (fun y=>h.size≤y) h' s' ((Cp B.2 O.2 T.2 p).map (OJ B.2 O.2 T.2))→Upd s.M h h'→
   VaultAt W h' vp (BO s n (t',uF B.2 O.2 T.2 p) (nz [a,b])).2→K (if(BO s n (t',uF B.2 O.2 T.2 p) (nz [a,b])).1.2=0 then((BO s n (t',uF B.2 O.2 T.2 p) (nz [a,b])).1.1,s',0)else(0,⟨none,0,0⟩,(BO s n (t',uF B.2 O.2 T.2 p) (nz [a,b])).1.2)) h'):
  HC PG eP [pV vp,.string n,.string m,.int .i64 p] [.c (.int .u32),.c .slice,.c (.int .i64)] K h:=by
 refine rP (some ⟨vp,0,none⟩) n m p ?_;unfold ns aZ ae eZ sx aA af dY nv yO w6 qH uB K7 SD F7 Ri;refine qF v n (qF v m ?_);rw[ha,hb];refine Join.plain (ai.2 (ai.2 (E2 ?_)));rw[fw,decide_eq_false (zt A H)];refine ai.2 (x8 v b a fun c h1 hc k1=>CondP.intro (fun e=>absurd (hc.1 e) hn1) fun _=>?_)
 have v1:=v.upd0 k1;refine x8 v1 a b fun c2 h2 hc2 k2=>CondP.intro (fun e=>absurd (hc2.1 e) hn2) fun _=>?_
 have v2:=v1.upd0 k2;refine⟨_,rfl,_,vc v2.blk 6,Qb v2.g v2.inv.good.toSmall a b fun g h3 m1 m2 m3 k3=>?_⟩
 have Y:U3 s.L a b g:=⟨m1,m2,m3⟩;have v3:=v2.upd0 k3;have S:=(k1.tr k2).tr k3;have go:∀B:TD,Aa s g B→TreeIs W h3 s.kind s.x B.1 B.2∧Few N B.2:=fun B t=>by
  rcases t with⟨_,rfl⟩|⟨_,t⟩
  ·exact⟨v3.em,db,bS _,fun _ h=>by cases h⟩
  ·exact⟨(v3.ts _ (mn t)).1,hF _ (mn t)⟩
 have gO:∀{h'},VaultAt W h' vp s→kG (.int .u32) (Aj vH) h' (some s.tm) (.int .u32 a) (Aj O.1) true:=fun v'=>by
  have:=v'.t.get a (vH,[]);rw[hO]at this;exact this
 have gT:∀{h'},VaultAt W h' vp s→kG (.int .u32) (Aj vH) h' (some s.tm) (.int .u32 b) (Aj T.1) true:=fun v'=>by
  have:=v'.t.get b (vH,[]);rw[hT]at this;exact this
 have fO:=hF _ (mn hO);have fT:=hF _ (mn hT);have U:∀y,W y→y<h.size:=v.g.lt;have fin:∀B:TD,Aa s g B→∀z w C sv,Upd No h z→Upd No z w→(p=0→Cp B.2 O.2 T.2 p= [])→TreeIs W w s.kind s.x C (uF B.2 O.2 T.2 p)→OwnS IM 7 cV (fun y=>z.size≤y) w sv ((Cp B.2 O.2 T.2 p).map (OJ B.2 O.2 T.2))→
   At (hnew w [.int .u32 a,.int .u32 b] jf) (fun h50=>HC PG eY [pV vp,.string n,Aj C,.slice (some (aO w)) 2 2] [.c (.int .u32),.c (.int .i64)] (fun(I:Int×Int) Z=>CondP (I.2 !=(0:Int)) (K (0,⟨none,0,0⟩,I.2) Z) (K (I.1,sv,0) Z)) h50):=fun B t z w C sv F i A X os=>by
  have f:=Mm (p:=p) (go B t).2 fO fT;refine bi fun h8 P k=>?_
  have L:=v.upd0 (F.tr i);refine CX L k n (d:=(C,uF B.2 O.2 T.2 p)) X f.up f.fits (pb:=w.size) (al _) (bo P) (sl:=⟨some (aO w),2,2⟩) (ps:= [a,b]) ⟨rfl,vL,al _,.inr ⟨w.size,[],rfl,rfl,P,rfl⟩⟩ (by simp) fun D x v9=>?_
  have s6:=F.size;have r:=hk g B Y t A D C sv ((os.upd x fun y o hM=>by have:=U y (v.w y hM);omega).more fun y o=>by omega) ((F.tr i).wide.tr x) v9
  refine CondP.intro (fun e=>?_) fun e=>?_
  ·rw[if_neg (by simpa using e)]at r;exact r
  ·rw[if_pos (by simpa using e)]at r;exact r
 refine GI v3 (Y.2.1.imp id fun u=>u.1.right) fun B t h4 k4=>?_
 have s4:=k4.size;have nt:∀y,W y→y≠h4.size:=fun y o=>by have:=U y o;have:=S.size;omega
 refine bi fun h5 b5 k5=>cO (c:=jN vH) (vs:=jN B.1) b5 rfl fun z J u6=>?_
 have G:Upd No h3 z:=(k4.tr k5).own u6 s4;have j:=v3.upd0 G;have i6:=(go B t).1.upd0 G;have F:=S.tr G;obtain⟨S1,S2⟩:=hS g B Y t;have fB:=(go B t).2;refine⟨_,vc J 0,_,vc J 1,_,vc J 2,_,vc J 3,_,vc J 4,_,vc J 5,_,rfl,_,vc j.blk 7,O.1,true,gO j,_,rfl,_,vc j.blk 7,T.1,true,gT j,?_,?_⟩
 ·refine Dm i6 (j.ts _ (mn hO)).1 (j.ts _ (mn hT)).1 j.g.lt fB fO fT Q Q Q A H S1 S2 (fun e0 hc w sv os i=>?_) fun hc w C sv X os i=>?_
  ·refine⟨vc (j.upd0 i).blk 7,vc (j.upd0 i).blk 7,bi fun h8 P k=>⟨vc (j.upd0 (i.tr k)).blk 7,vc (j.upd0 (i.tr k)).blk 7,cO (c:=jN vH) (vs:=jN O.1) P rfl fun D q x=>ar.2 ?_⟩⟩
   have s7:=i.size;have E:Upd No w D:=k.own x (al _);exact V g B Y t e0 hc D sv ((os.upd (k.own x (al _)) fun _ _ h=>h).more fun y o=>by have:=F.size;omega) ((F.tr i).tr E)
  ·refine⟨vc (j.upd0 i).blk 7,vc (j.upd0 i).blk 7,bi fun h8 P k=>⟨vc (j.upd0 (i.tr k)).blk 7,vc (j.upd0 (i.tr k)).blk 7,cO (c:=jN vH) (vs:=jN C) P rfl fun D q x=>ai.2 ?_⟩⟩
   have E:Upd No w D:=k.own x (al _);refine⟨_,vc q 0,_,vc q 1,_,vc q 2,_,vc q 3,_,vc q 4,_,vc q 5,?_⟩;exact fin B t z D C sv F (i.tr E) hc (X.upd0 E) (os.upd E fun _ _ h=>h)
 ·refine bi fun w b7 i=>⟨gT (j.upd0 i),vc (j.upd0 i).blk 7,gO (j.upd0 i),vc (j.upd0 i).blk 7,?_,?_⟩
  ·have R:=i.get0 J
   exact⟨vc R 0,vc R 1,vc R 2,vc R 3,vc R 4,vc R 5⟩
  ·have L:=j.upd0 i
   have s6:=i.size;have z7:=bo b7;have hw:∀y,(W y∨y=z.size)→W y∨z.size≤y:=fun y o=>o.imp id fun e=>by omega
   refine Dm (W:=fun y=>W y∨y=z.size) (i6.re i (fun _ h=>h.elim) hw) ((j.ts _ (mn hO)).1.re i (fun _ h=>h.elim) hw) ((j.ts _ (mn hT)).1.re i (fun _ h=>h.elim) hw) (fun y o=>o.elim (L.g.lt y) fun e=>by omega) fB fO fT Q Q Q A H S1 S2 (fun e0 hc h8 sv os k=>?_) fun hc h8 C sv X os k=>?_
   ·refine⟨vc (L.upd0 k).blk 7,vc (L.upd0 k).blk 7,cO (c:=jN vH) (vs:=jN O.1) (k.get0 b7) rfl fun D q x=>ar.2 ?_⟩
    exact V g B Y t e0 hc D sv ((os.upd x fun y o e=>by have e:y=z.size:=e;omega).more fun y o=>by have:=F.size;omega) (F.tr ((i.tr k).own x (al _)))
   ·refine⟨vc (L.upd0 k).blk 7,vc (L.upd0 k).blk 7,cO (c:=jN vH) (vs:=jN C) (k.get0 b7) rfl fun D q x=>ai.2 ?_⟩
    refine⟨_,vc q 0,_,vc q 1,_,vc q 2,_,vc q 3,_,vc q 4,_,vc q 5,?_⟩;refine fin B t z D C sv F ((i.tr k).own x (al _)) hc (X.re (W':=W) x (fun y o=>.inl (.inr o)) fun y o=>.inl (.inl o)) ((os.upd x fun y o e=>by have e:y=z.size:=e;omega).more fun y o=>by omega)
end
end Go.Proofs
namespace Go.Proofs
open Go Go.Lift
theorem Ob{x:Hs}{h:ac}{kind:Int}(d:kind=0∨kind=1){K:Option Addr×Int→ac→Prop}(o:∀h' a,Upd No h h'→K (a,0) h'):HC PG Cl [.int .i64 kind,.agg #[.int .u64 x.k0,.int .u64 x.k1,.int .u64 x.mask]] [.c .ptr,.c (.int .i64)] K h:=by
 refine OX kind (x.k0,x.k1,x.mask) ?_;unfold HI ae D9 BN aA nv uE Pg Ub;refine bi fun w b1 k1=>⟨_,vc b1 0,_,vc b1 1,_,vc b1 2,?_⟩
 refine RG (W:=No) (x:=x) d fun u r v j=>?_
 refine bi fun t q p=>cO (c:=TR Vh) (vs:=TR r) q rfl fun s b i=>ai.2 ⟨_,vc b 0,_,vc b 1,_,vc b 2,_,vc b 3,r.2.2.2.2,vc b 4,?_⟩
 refine bi fun k n g=>bi fun f m e=>o f _ ?_
 exact(((k1.tr j).tr p).own i (k1.tr j).size).tr (g.tr e)
theorem Om{x:Hs}{h:ac}{kind:Int}(d:kind=0∨kind=1){K:Option Addr→ac→Prop}
  (q:∀h' c gp gm tm bm nm t st xp,VaultAt (fun y=>No y∨VS.M ⟨gp,gm,tm,bm,nm,kind,x,t,[],1,[],[],[]⟩ y) h' c ⟨gp,gm,tm,bm,nm,kind,x,t,[],1,[],[],[]⟩→h'[st]? =some (.cells #[.pointer (some ⟨c,0,none⟩),.pointer xp] xd (0,0))→h.size≤c→c≠st→
   (∀y,VS.M ⟨gp,gm,tm,bm,nm,kind,x,t,[],1,[],[],[]⟩ y→h.size≤y∧y<st)→Upd No h h'→K (some ⟨st,0,none⟩) h'):
  HC PG zD [.int .i64 kind,.agg #[.int .u64 x.k0,.int .u64 x.k1,.int .u64 x.mask]] [.c .ptr] K h:=by
 refine MM kind (x.k0,x.k1,x.mask) ?_;unfold FV ae D9 BN Nm w7;refine bi fun u b1 k1=>⟨_,vc b1 0,_,vc b1 1,_,vc b1 2,?_⟩
 have A:=k1.size;refine M3 (W:=No) (x:=x) (fun _ h=>h.elim) d fun w c gp gm tm bm nm t v B s n=>?_
 have j:=n.get0 b1;refine⟨_,vc j 0,_,vc j 1,_,vc j 2,?_⟩;refine PU fun p e=>Ob (x:=x) d fun k a f=>?_
 refine Join.plain (ai.2 (ai.2 (bi fun m i g=>?_)))
 have b:=(e.tr f).tr g;have z:=(e.tr f).size;exact q m c gp gm tm bm nm t k.size a (v.upd0 b) i (by omega) (by have:=bo v.blk;omega) (fun y o=>⟨by have:=s y o;omega,by have:=v.size o;omega⟩) ((k1.tr n).tr b)
end Go.Proofs
