/- A part of the proof that the named laws of this program answer true, whatever the input. -/
import Derived.Test.YtncppacbfagpgaaGreatPart10
import Derived.Test.YtncppacbfagpgaaGreatPart8
namespace Go.Proofs
open Go Go.Lift Go.Sort
variable {dec:Int→Ch} {M:Nat→Prop} {s:SliceV} {h:af} {d:Array Int}
open BitVec renaming ofInt→aw
open Bool renaming and_eq_true→bd
open Int renaming tdiv→mG,tdiv_eq_ediv_of_nonneg→mF
open IntKind renaming wrap→ac,bits→ak
open List renaming range→gu,getElem?_eq_getElem→ai,getElem?_eq_none→lR,length_cons→ao
open Nat renaming le_refl→au,le_of_eq→fh,zero_le→bf,le_trans→bJ
open Option renaming map_eq_some_iff→fg
theorem BG{T:Int→(Bool→af→Prop)→af→Prop}{REST:Int→af→Prop}{p:Int→Bool}{tj t0:Int}{j i0:Nat}(e0:t0=(i0:Int))(ej:tj=(j:Int))(hj:j≤1000000000)(hi0:i0≤1000000000)
  (hs:SA dec M s h d)(hT:∀(i:Nat)(R:Bool→af→Prop)(h1:af),SA dec M s h1 d→i0≤i→i≤j→(∀h2,SA dec M s h2 d→Upd No h1 h2→R(p d[i]!) h2)→T(i:Int) R h1)(hR:∀h1,SA dec M s h1 d→Upd No h h1→REST((scanUp p d j i0:Nat):Int) h1):
  LoopP(fun(I:Int→af→Prop)(t:Int) h'=>Join(fun(c:Bool) h''=>CondP c(I(ac .i64(t+1)) h'')(REST t h''))(fun J=>CondP(decide(t≤tj))(T t J h')(J false h'))) t0 h:=by
 subst e0 ej;refine LoopP.ghost(fun(i:Nat)(t:Int) h'=>t=(i:Int)∧SA dec M s h' d∧Upd No h h'∧i0≤i∧i≤1000000001∧scanUp p d j i=scanUp p d j i0)(fun i=>j+1-i) i0 ⟨rfl,hs,Upd.refl _ _,au _,by omega,rfl⟩ ?_
 rintro I i t h' ⟨rfl,hs1,hu1,hi,hi2,hsc⟩ hI;refine Join.intro(fun c h''=>SA dec M s h'' d∧Upd No h' h''∧(c=true↔i≤j∧p d[i]!=true))(fun R hR=>?_) ?_
 ·refine ay(fun hle=>?_)fun hgt=>hR _ _ ⟨hs1,Upd.refl _ _,by simp;omega⟩
  exact hT i _ h' hs1 hi(by omega)fun h2 hs2 k2=>hR _ _ ⟨hs2,k2,by simp;omega⟩
 ·rintro c h'' ⟨hs2,k2,hc⟩
  refine CondP.intro(fun h1=>?_)fun h1=>?_
  ·have hh:=hc.1 h1
   refine hI(i+1) _ _ ⟨by rw[cR(by omega)];rfl,hs2,hu1.tr k2,by omega,by omega,?_⟩ (by omega)
   rw[←hsc];conv=>rhs;rw[scanUp]
   rw[if_pos(by simp[hh])]
  ·have:scanUp p d j i=i:=by
    rw[scanUp,if_neg];intro hh;simp only[bd,decide_eq_true_iff]at hh;rw[hc.2 hh]at h1;cases h1
   rw[←hsc,this]at hR;exact hR _ hs2(hu1.tr k2)
theorem wB{T:Int→(Bool→af→Prop)→af→Prop}{REST:Int→af→Prop}{p:Int→Bool}{ti t0:Int}{j0 i:Nat}(e0:t0=(j0:Int))(ei:ti=(i:Int))(hj:j0≤1000000000)(hi0:1≤i)
  (hs:SA dec M s h d)(hT:∀(j:Nat)(R:Bool→af→Prop)(h1:af),SA dec M s h1 d→i≤j→j≤j0→(∀h2,SA dec M s h2 d→Upd No h1 h2→R(p d[j]!) h2)→T(j:Int) R h1)(hR:∀h1,SA dec M s h1 d→Upd No h h1→REST((scanDown p d i j0:Nat):Int) h1):
  LoopP(fun(I:Int→af→Prop)(t:Int) h'=>Join(fun(c:Bool) h''=>CondP c(I(ac .i64(t-1)) h'')(REST t h''))(fun J=>CondP(decide(ti≤t))(T t J h')(J false h'))) t0 h:=by
 subst e0 ei;refine LoopP.ghost(fun(j:Nat)(t:Int) h'=>t=(j:Int)∧SA dec M s h' d∧Upd No h h'∧j≤j0∧scanDown p d i j=scanDown p d i j0)(fun j=>j) j0 ⟨rfl,hs,Upd.refl _ _,au _,rfl⟩ ?_
 rintro I j t h' ⟨rfl,hs1,hu1,hj2,hsc⟩ hI;refine Join.intro(fun c h''=>SA dec M s h'' d∧Upd No h' h''∧(c=true↔i≤j∧p d[j]!=true))(fun R hR=>?_) ?_
 ·refine ay(fun hle=>?_)fun hgt=>hR _ _ ⟨hs1,Upd.refl _ _,by simp;omega⟩
  exact hT j _ h' hs1(by omega) hj2 fun h2 hs2 k2=>hR _ _ ⟨hs2,k2,by simp;omega⟩
 ·rintro c h'' ⟨hs2,k2,hc⟩
  refine CondP.intro(fun h1=>?_)fun h1=>?_
  ·have hh:=hc.1 h1
   obtain⟨j,rfl⟩:∃k,j=k+1:=⟨j-1,by omega⟩
   refine hI j _ _ ⟨by rw[cR(by omega)];omega,hs2,hu1.tr k2,by omega,?_⟩ (by omega)
   rw[←hsc];conv=>rhs;rw[scanDown]
   rw[if_pos(by simp[hh])]
  ·have:scanDown p d i j=j:=by
    cases j with
    |zero=>rw[scanDown]
    |succ j=>
     rw[scanDown,if_neg];intro hh;simp only[bd,decide_eq_true_iff]at hh;rw[hc.2 hh]at h1;cases h1
   rw[←hsc,this]at hR;exact hR _ hs2(hu1.tr k2)
theorem O8{a e pv:Nat}(hs:SA dec M s h d)(ha:a≤pv)(hp:pv<e)(he:e≤d.size){K:Int→af→Prop}(hk:∀h',SA dec M s h'(partitionEqual(j1 dec) d a e pv).2→Upd M h h'→K((partitionEqual(j1 dec) d a e pv).1:Nat) h'):
  HC PG ey [.slice s.a s.len s.cap,.int .i64 a,.int .i64 e,.int .i64 pv,qi] [.c (.int .i64)] K h:=by
 refine kN s a e pv qi ?_;unfold gj aj bP;have hsm:=hs.small;refine hs.swap (i:=a) (j:=pv) rfl rfl (by omega) (by omega)fun h0 hs0 hu0=>?_
 refine LoopP.ghost (fun(g:Nat×Nat×Array Int) (t:Int×Int) h'=>t.1=(g.1:Int)∧t.2=(g.2.1:Int)∧SA dec M s h' g.2.2∧g.2.2.size=d.size∧partEqLoop (j1 dec) a g.1 g.2.1 g.2.2=partitionEqual (j1 dec) d a e pv∧Upd M h h'∧g.2.1<e∧a<g.1∧g.1≤1000000000) (fun g=>g.2.1+1-g.1) (a+1,e-1,swp d a pv)
  ⟨by simp only;rw[cR (by omega)];rfl,by simp only;rw[cR (by omega)];omega,hs0,by simp,rfl,hu0,by simp only;omega,by simp,by simp only;omega⟩ ?_
 rintro I ⟨i,j,d1⟩ ⟨t1,t2⟩ h1 ⟨ht1,ht2,hs1,hz1,hr1,hu1,hj,hai,hi9⟩ hI;simp only at ht1 ht2 hs1 hz1 hr1 hj hai hi9;subst ht1 ht2;have g1:=scanUp_ge (fun x=> !(j1 dec) d1[a]! x) d1 j i
 rw[partEqLoop_eq]at hr1;refine BG (d:=d1) (p:=fun x=> !(j1 dec) d1[a]! x) (i0:=i) rfl rfl (by omega) hi9 hs1 (fun k R h' hs' hk1 hk2 hR=>hs'.less (i:=a) (j:=k) rfl rfl (by omega) (by omega)fun h2 e2 hs2 k2 he2=>by rw[he2];exact hR _ hs2 k2)fun hA hsA kA=>?_
 generalize scanUp (fun x=> !(j1 dec) d1[a]! x) d1 j i=i2 at g1 hr1
 have g2:=scanDown_le (fun x=>(j1 dec) d1[a]! x) d1 i2 j
 refine wB (d:=d1) (p:=fun x=>(j1 dec) d1[a]! x) (j0:=j) (i:=i2) rfl rfl (by omega) (by omega) hsA (fun k R h' hs' hk1 hk2 hR=>hs'.less (i:=a) (j:=k) rfl rfl (by omega) (by omega)fun h2 e2 hs2 k2 he2=>by rw[he2];exact hR _ hs2 k2)fun hB hsB kB=>?_
 generalize scanDown (fun x=>(j1 dec) d1[a]! x) d1 i2 j=j2 at g2 hr1
 refine ay (fun hgt=>?_)fun hle=>?_
 ·rw[if_pos (by omega)]at hr1
  rw[←hr1]at hk;exact hk _ hsB (hu1.tr (kA.tr kB).wide)
 ·rw[if_neg (by omega)]at hr1
  refine hsB.swap (i:=i2) (j:=j2) rfl rfl (by omega) (by omega)fun h2 hs2 hu2=>?_
  exact hI (i2+1,j2-1,swp d1 i2 j2) _ _ ⟨by simp only;rw[cR (by omega)];rfl,by simp only;rw[cR (by omega)];omega,hs2,by simp[hz1],hr1,(hu1.tr (kA.tr kB).wide).tr hu2,by simp only;omega,by simp only;omega,by simp only;omega⟩ (by simp only;omega)
theorem R9{a e pv:Nat}(hs:SA dec M s h d)(ha:a≤pv)(hp:pv<e)(he:e≤d.size){K:Int×Bool→af→Prop}
  (hk:∀h',SA dec M s h'(partition(j1 dec) d a e pv).2.2→Upd M h h'→K(((partition(j1 dec) d a e pv).1:Nat),(partition(j1 dec) d a e pv).2.1) h'):
  HC PG fe [.slice s.a s.len s.cap,.int .i64 a,.int .i64 e,.int .i64 pv,qi] [.c (.int .i64),.c .bool] K h:=by
 refine mW s a e pv qi ?_;unfold ik aj bP;have hsm:=hs.small;refine hs.swap (i:=a) (j:=pv) rfl rfl (by omega) (by omega)fun h0 hs0 hu0=>?_
 have hz0:(swp d a pv).size=d.size:=by simp
 have hP:partition (j1 dec) d a e pv=(let d:=swp d a pv
  let i:=scanUp (fun x=>(j1 dec) x d[a]!) d (e-1) (a+1)
  let j:=scanDown (fun x=> !(j1 dec) x d[a]!) d i (e-1)
  if i>j then(j,true,swp d j a)else
  let r:=partLoop (j1 dec) a (i+1) (j-1) (swp d i j)
  (r.1,false,swp r.2 r.1 a)):=rfl
 simp only at hP;generalize swp d a pv=d0 at hs0 hz0 hP;have we:ac .i64 ((e:Int)-1)=((e-1:Nat):Int):=by rw[cR (by omega)];omega
 have wa:ac .i64 ((a:Int)+1)=((a+1:Nat):Int):=by rw[cR (by omega)];rfl
 have g1:=scanUp_ge (fun x=>(j1 dec) x d0[a]!) d0 (e-1) (a+1)
 refine BG (d:=d0) (p:=fun x=>(j1 dec) x d0[a]!) (j:=e-1) (i0:=a+1) wa we (by omega) (by omega) hs0 (fun k R h' hs' hk1 hk2 hR=>hs'.less (i:=k) (j:=a) rfl rfl (by omega) (by omega)fun h2 e2 hs2 k2 he2=>by rw[he2];exact hR _ hs2 k2)fun hA hsA kA=>?_
 generalize scanUp (fun x=>(j1 dec) x d0[a]!) d0 (e-1) (a+1)=i2 at g1 hP
 have g2:=scanDown_le (fun x=> !(j1 dec) x d0[a]!) d0 i2 (e-1)
 refine wB (d:=d0) (p:=fun x=> !(j1 dec) x d0[a]!) (j0:=e-1) (i:=i2) we rfl (by omega) (by omega) hsA (fun k R h' hs' hk1 hk2 hR=>hs'.less (i:=k) (j:=a) rfl rfl (by omega) (by omega)fun h2 e2 hs2 k2 he2=>by rw[he2];exact hR _ hs2 k2)fun hB hsB kB=>?_
 generalize scanDown (fun x=> !(j1 dec) x d0[a]!) d0 i2 (e-1)=j2 at g2 hP
 refine ay (fun hgt=>?_)fun hle=>?_
 ·rw[if_pos (by omega)]at hP
  rw[hP]at hk;exact hsB.swap (i:=j2) (j:=a) rfl rfl (by omega) (by omega)fun h2 hs2 hu2=>hk h2 hs2 ((hu0.tr (kA.tr kB).wide).tr hu2)
 ·rw[if_neg (by omega)]at hP
  refine hsB.swap (i:=i2) (j:=j2) rfl rfl (by omega) (by omega)fun h2 hs2 hu2=>?_
  refine LoopP.ghost (fun(g:Nat×Nat×Array Int) (t:Int×Int) h'=>t.1=(g.1:Int)∧t.2=(g.2.1:Int)∧SA dec M s h' g.2.2∧g.2.2.size=d.size∧partLoop (j1 dec) a g.1 g.2.1 g.2.2=partLoop (j1 dec) a (i2+1) (j2-1) (swp d0 i2 j2)∧Upd M h h'∧g.2.1<e∧a<g.1∧g.1≤1000000000) (fun g=>g.2.1+1-g.1) (i2+1,j2-1,swp d0 i2 j2)
   ⟨by simp only;rw[cR (by omega)];rfl,by simp only;rw[cR (by omega)];omega,hs2,by simp[hz0],rfl,(hu0.tr (kA.tr kB).wide).tr hu2,by simp only;omega,by simp only;omega,by simp only;omega⟩ ?_
  rintro I ⟨i,j,d1⟩ ⟨t1,t2⟩ h1 ⟨ht1,ht2,hs1,hz1,hr1,hu1,hj,hai,hi9⟩ hI;simp only at ht1 ht2 hs1 hz1 hr1 hj hai hi9;subst ht1 ht2;have g3:=scanUp_ge (fun x=>(j1 dec) x d1[a]!) d1 j i
  rw[partLoop_eq]at hr1;refine BG (d:=d1) (p:=fun x=>(j1 dec) x d1[a]!) (i0:=i) rfl rfl (by omega) hi9 hs1 (fun k R h' hs' hk1 hk2 hR=>hs'.less (i:=k) (j:=a) rfl rfl (by omega) (by omega)fun h2 e2 hs2 k2 he2=>by rw[he2];exact hR _ hs2 k2)fun hC hsC kC=>?_
  generalize scanUp (fun x=>(j1 dec) x d1[a]!) d1 j i=i3 at g3 hr1
  have g4:=scanDown_le (fun x=> !(j1 dec) x d1[a]!) d1 i3 j
  refine wB (d:=d1) (p:=fun x=> !(j1 dec) x d1[a]!) (j0:=j) (i:=i3) rfl rfl (by omega) (by omega) hsC (fun k R h' hs' hk1 hk2 hR=>hs'.less (i:=k) (j:=a) rfl rfl (by omega) (by omega)fun h2 e2 hs2 k2 he2=>by rw[he2];exact hR _ hs2 k2)fun hD hsD kD=>?_
  generalize scanDown (fun x=> !(j1 dec) x d1[a]!) d1 i3 j=j3 at g4 hr1
  refine ay (fun hgt=>?_)fun hle3=>?_
  ·rw[if_pos (by omega)]at hr1
   rw[hP,←hr1]at hk;exact hsD.swap (i:=j3) (j:=a) rfl rfl (by omega) (by omega)fun h3 hs3 hu3=>hk h3 hs3 ((hu1.tr (kC.tr kD).wide).tr hu3)
  ·rw[if_neg (by omega)]at hr1
   refine hsD.swap (i:=i3) (j:=j3) rfl rfl (by omega) (by omega)fun h3 hs3 hu3=>?_
   exact hI (i3+1,j3-1,swp d1 i3 j3) _ _ ⟨by simp only;rw[cR (by omega)];rfl,by simp only;rw[cR (by omega)];omega,hs3,by simp[hz1],hr1,(hu1.tr (kC.tr kD).wide).tr hu3,by simp only;omega,by simp only;omega,by simp only;omega⟩ (by simp only;omega)
end Go.Proofs
namespace Go.Proofs
open Go Go.Lift Go.Sort
variable {dec:Int→Ch} {M:Nat→Prop} {s:SliceV} {h:af} {d:Array Int}
@[simp] theorem EA(lt:Int→Int→Bool):∀(j:Nat) (d:Array Int),(shiftDown lt j d).size=d.size
 |0,d=>rfl
 |j+1,d=>by rw[shiftDown];split;rfl;rw[EA lt j];simp
@[simp] theorem RU(lt:Int→Int→Bool)(e j:Nat)(d:Array Int):(shiftUp lt e j d).size=d.size:=by
 fun_induction shiftUp lt e j d<;>simp_all
theorem Gc{a e:Nat}(hs:SA dec M s h d)(ha:a<e)(he:e≤d.size){K:Bool→af→Prop}(hk:∀h',SA dec M s h'(partialInsertionSort(j1 dec) d a e).1→Upd M h h'→K(partialInsertionSort(j1 dec) d a e).2 h'):
  HC PG dx [.slice s.a s.len s.cap,.int .i64 a,.int .i64 e,qi] [.c .bool] K h:=by
 refine jp s a e qi ?_;unfold fk aj bP;have hsm:=hs.small;refine LoopP.ghost (fun(g:Nat×Nat×Array Int) (t:Int×Int) h'=>t.1=(g.2.1:Int)∧t.2=5-(g.1:Int)∧SA dec M s h' g.2.2∧g.2.2.size=d.size∧partialIns (j1 dec) a e g.1 g.2.1 g.2.2=partialInsertionSort (j1 dec) d a e∧Upd M h h'∧g.1≤5∧a<g.2.1∧g.2.1≤e) (fun g=>g.1) (5,a+1,d)
  ⟨by simp only;rw[cR (by omega)];rfl,by simp only;omega,hs,rfl,rfl,Upd.refl _ _,by simp,by simp,by simp only;omega⟩ ?_
 rintro I ⟨st,i0,d1⟩ ⟨t1,t2⟩ h1 ⟨ht1,ht2,hs1,hz1,hr1,hu1,hst,hai,hie⟩ hI;simp only at ht1 ht2 hs1 hz1 hr1 hst hai hie;subst ht1 ht2;refine ay (fun hlt=>?_)fun hge=>?_
 ·obtain⟨st,rfl⟩:∃k,st=k+1:=⟨st-1,by have:5-(st:Int)<5:=hlt;omega⟩
  refine Join.intro (fun t h'=>∃i2 d2,t=(i2:Nat)∧SA dec M s h' d2∧d2.size=d.size∧partialIns (j1 dec) a e st i2 d2=partialInsertionSort (j1 dec) d a e∧Upd M h h'∧a<i2∧i2≤e) (fun R hR=>?_) ?_
  ·refine LoopP.ghost (fun(i:Nat) (t:Int) h'=>t=(i:Int)∧SA dec M s h' d1∧Upd No h1 h'∧scanSorted (j1 dec) d1 e i=scanSorted (j1 dec) d1 e i0∧a<i∧i≤e) (fun i=>e-i) i0 ⟨rfl,hs1,Upd.refl _ _,rfl,hai,hie⟩ ?_
   rintro I2 i t h' ⟨rfl,hs2,k2,hsc,hai2,hie2⟩ hI2;refine Join.intro (fun c h''=>SA dec M s h'' d1∧Upd No h' h''∧(c=true↔i<e∧(j1 dec) d1[i]! d1[i-1]!=false)) (fun R2 hR2=>?_) ?_
   ·refine ay (fun hle=>?_)fun hgt=>hR2 _ _ ⟨hs2,Upd.refl _ _,by simp;omega⟩
    exact hs2.less (i:=i) (j:=i-1) rfl (by rw[cR (by omega)];omega) (by omega) (by omega)fun h3 e3 hs3 k3 he3=>hR2 _ _ ⟨hs3,k3,by rw[he3];simp;omega⟩
   ·rintro c h'' ⟨hs3,k3,hc⟩
    have huA:=hu1.tr (k2.tr k3).wide;refine CondP.intro (fun h2=>?_)fun h2=>?_
    ·have hh:=hc.1 h2
     refine hI2 (i+1) _ _ ⟨by rw[cR (by omega)];rfl,hs3,k2.tr k3,?_,by omega,by omega⟩ (by omega)
     rw[←hsc];conv=>rhs;rw[scanSorted]
     rw[if_pos (by simp[hh])]
    ·have hsi:scanSorted (j1 dec) d1 e i=i:=by
      rw[scanSorted,if_neg];intro hh;simp only[bd,decide_eq_true_iff,Bool.not_eq_eq_eq_not,Bool.not_true]at hh;rw[hc.2 hh]at h2;cases h2
     have hr2:=hr1;rw[partialIns]at hr2;simp only[←hsc,hsi]at hr2;refine CondP.intro (fun h3=>?_)fun h3=>?_
     ·have h3:i=e:=by have:(i:Int)=e:=by simpa using h3
            omega
      rw[if_pos h3]at hr2;rw[←hr2]at hk;exact hk _ hs3 huA
     ·have h3:i≠e:=fun e'=>by subst e';simp at h3
      rw[if_neg h3]at hr2;have we:ac .i64 ((e:Int)-(a:Int))=((e-a:Nat):Int):=by rw[cR (by omega)];omega
      show CondP (decide (ac .i64 ((e:Int)-(a:Int))<50)) _ _
      rw[we];refine ay (fun h4=>?_)fun h4=>?_
      ·rw[if_pos (by omega)]at hr2
       rw[←hr2]at hk;exact hk _ hs3 huA
      ·rw[if_neg (by omega)]at hr2
       have hi1:1≤i:=by omega
       refine hs3.swap (i:=i) (j:=i-1) rfl (by rw[cR (by omega)];omega) (by omega) (by omega)fun h5 hs5 hu5=>?_
       have hz5:(swp d1 i (i-1)).size=d.size:=by simp[hz1]
       generalize swp d1 i (i-1)=d5 at hs5 hz5 hr2;refine Join.intro (fun _ h'=>SA dec M s h' (if i-a≥2 then shiftDown (j1 dec) (i-1) d5 else d5)∧Upd M h h') (fun R3 hR3=>?_) ?_
       ·have wi:ac .i64 ((i:Int)-(a:Int))=((i-a:Nat):Int):=by rw[cR (by omega)];omega
        show CondP (decide (ac .i64 ((i:Int)-(a:Int))≥2)) _ _
        rw[wi];refine ay (fun h6=>?_)fun h6=>?_
        ·rw[if_pos (by omega)]at hR3
         refine LoopP.ghost (fun(g:Nat×Array Int) (t:Int) h'=>t=(g.1:Int)∧SA dec M s h' g.2∧g.2.size=d.size∧shiftDown (j1 dec) g.1 g.2=shiftDown (j1 dec) (i-1) d5∧Upd M h h'∧g.1<e) (fun g=>g.1) (i-1,d5)
          ⟨by rw[cR (by omega)];simp only;omega,hs5,hz5,rfl,huA.tr hu5,by simp only;omega⟩ ?_
         rintro I4 ⟨j,d6⟩ t h7 ⟨ht,hs7,hz7,hr7,hu7,hje⟩ hI4;simp only at ht hs7 hz7 hr7 hje;subst ht;refine ay (fun h8=>?_)fun h8=>?_
         ·obtain⟨j,rfl⟩:∃k,j=k+1:=⟨j-1,by omega⟩
          have e1:ac .i64 (((j+1:Nat):Int)-1)=(j:Int):=by rw[cR (by omega)];omega
          rw[shiftDown]at hr7;refine hs7.less (i:=j+1) (j:=j) rfl e1 (by omega) (by omega)fun hL eL hsL kL heL=>?_
          have huL:=hu7.tr kL.wide;rw[heL];refine CondP.intro (fun h9=>?_)fun h9=>?_
          ·rw[if_pos h9]at hr7
           exact hR3 _ _ ⟨by rw[←hr7];exact hsL,huL⟩
          ·rw[if_neg (by rw[h9];simp)]at hr7
           refine hsL.swap (i:=j+1) (j:=j) rfl e1 (by omega) (by omega)fun h10 hs10 hu10=>?_
           exact hI4 (j,swp d6 (j+1) j) _ _ ⟨e1,hs10,by simp[hz7],hr7,huL.tr hu10,by simp only;omega⟩ (by simp)
         ·have:j=0:=by omega
          subst this;exact hR3 _ _ ⟨by rw[←hr7];exact hs7,hu7⟩
        ·rw[if_neg (by omega)]at hR3
         exact hR3 _ _ ⟨hs5,huA.tr hu5⟩
       ·rintro _ h6 ⟨hs6,hu6⟩
        have hz6:(if i-a≥2 then shiftDown (j1 dec) (i-1) d5 else d5).size=d.size:=by split<;>simp[hz5]
        generalize (if i-a≥2 then shiftDown (j1 dec) (i-1) d5 else d5)=d6 at hs6 hz6 hr2
        have wi:ac .i64 ((e:Int)-(i:Int))=((e-i:Nat):Int):=by rw[cR (by omega)];omega
        show CondP (decide (ac .i64 ((e:Int)-(i:Int))≥2)) _ _
        rw[wi];refine ay (fun h7=>?_)fun h7=>?_
        ·rw[if_pos (by omega)]at hr2
         refine LoopP.ghost (fun(g:Nat×Array Int) (t:Int) h'=>t=(g.1:Int)∧SA dec M s h' g.2∧g.2.size=d.size∧shiftUp (j1 dec) e g.1 g.2=shiftUp (j1 dec) e (i+1) d6∧Upd M h h'∧1≤g.1∧g.1≤e) (fun g=>e-g.1) (i+1,d6)
          ⟨by rw[cR (by omega)];rfl,hs6,hz6,rfl,hu6,by simp,by simp only;omega⟩ ?_
         rintro I4 ⟨j,d7⟩ t h8 ⟨ht,hs8,hz8,hr8,hu8,hj1,hje⟩ hI4;simp only at ht hs8 hz8 hr8 hj1 hje;subst ht;refine ay (fun h9=>?_)fun h9=>?_
         ·have e1:ac .i64 ((j:Int)-1)=((j-1:Nat):Int):=by rw[cR (by omega)];omega
          rw[shiftUp,if_pos (by omega)]at hr8;refine hs8.less (i:=j) (j:=j-1) rfl e1 (by omega) (by omega)fun hL eL hsL kL heL=>?_
          have huL:=hu8.tr kL.wide;rw[heL];refine CondP.intro (fun h10=>?_)fun h10=>?_
          ·rw[if_pos h10]at hr8
           exact hR _ _ ⟨i,d7,rfl,hsL,hz8,by rw[hr8];exact hr2,huL,hai2,hie2⟩
          ·rw[if_neg (by rw[h10];simp)]at hr8
           refine hsL.swap (i:=j) (j:=j-1) rfl e1 (by omega) (by omega)fun h11 hs11 hu11=>?_
           exact hI4 (j+1,swp d7 j (j-1)) _ _ ⟨by rw[cR (by omega)];rfl,hs11,by simp[hz8],hr8,huL.tr hu11,by simp,by simp only;omega⟩ (by simp only;omega)
         ·rw[shiftUp,if_neg (by omega)]at hr8
          exact hR _ _ ⟨i,d7,rfl,hs8,hz8,by rw[hr8];exact hr2,hu8,hai2,hie2⟩
        ·rw[if_neg (by omega)]at hr2
         exact hR _ _ ⟨i,d6,rfl,hs6,hz6,hr2,hu6,hai2,hie2⟩
  ·rintro t h' ⟨i2,d2,rfl,hs2,hz2,hr2,hu2,hai2,hie2⟩
   exact hI (st,i2,d2) _ _ ⟨rfl,by simp only;rw[cR (by omega)];omega,hs2,hz2,hr2,hu2,by simp only;omega,hai2,hie2⟩ (by simp)
 ·have:st=0:=by have:¬5-(st:Int)<5:=hge;omega
  subst this;rw[partialIns]at hr1;rw[←hr1]at hk;exact hk _ hs1 hu1
theorem BQ{x y:Nat}(hs:SA dec M s h d)(hx:x<d.size)(hy:y<d.size){c:Nat}{n:Int}(hc:h[c]?=some(.cells #[.int .i64 n] qB(0,0)))(hcb:¬M c){K:Int×Int→af→Prop}
  (hk:∀h'(p q:Nat) m,(p=x∧q=y∨p=y∧q=x)→SA dec M s h' d→h'[c]?=some(.cells #[.int .i64 m] qB(0,0))→Upd(·=c) h h'→K((p:Int),(q:Int)) h'):
  HC PG de[.slice s.a s.len s.cap,.int .i64 x,.int .i64 y,.pointer(some ⟨c,0,none⟩),qi][.c(.int .i64),.c(.int .i64)] K h:=by
 refine oH s x y(some ⟨c,0,none⟩) qi ?_;unfold jk aj bP;refine hs.less(i:=y)(j:=x) rfl rfl hy hx fun h0 e0 hs0 k0 he0=>?_
 have hc0:=k0.get0 hc;rw[he0];refine CondP.intro(fun h1=>?_)fun h1=>?_
 ·refine⟨_,rfl,n,by rw[bj hc0];rfl,_,rfl,ir hc0(by simp),?_⟩
  have k:Upd(·=c) h0(hset h0 ⟨c,0,none⟩ (.int .i64(ac .i64(n+1)))):=Upd.hset _ _ rfl
  refine hk _ y x(ac .i64(n+1))(.inr ⟨rfl,rfl⟩)(hs0.updC k hcb) ?_(k0.wide.tr k);rw[uC hc0,jo hc0];rfl
 ·exact hk _ x y _(.inl ⟨rfl,rfl⟩) hs0 hc0 k0.wide
theorem Ht{x y z:Nat}(hs:SA dec M s h d)(hx:x<d.size)(hy:y<d.size)(hz:z<d.size){c:Nat}{n:Int}(hc:h[c]?=some(.cells #[.int .i64 n] qB(0,0)))(hcb:¬M c){K:Int→af→Prop}
  (hk:∀h'(p:Nat) m,(p=x∨p=y∨p=z)→SA dec M s h' d→h'[c]?=some(.cells #[.int .i64 m] qB(0,0))→Upd(·=c) h h'→K(p:Int) h'):
  HC PG eA[.slice s.a s.len s.cap,.int .i64 x,.int .i64 y,.int .i64 z,.pointer(some ⟨c,0,none⟩),qi][.c(.int .i64)] K h:=by
 refine oI s x y z(some ⟨c,0,none⟩) qi ?_;unfold jl;refine BQ hs hx hy hc hcb fun h1 p1 q1 m1 e1 hs1 hc1 hu1=>?_
 have hq1:q1<d.size:=by omega
 have hp1:p1<d.size:=by omega
 refine BQ hs1 hq1 hz hc1 hcb fun h2 p2 q2 m2 e2 hs2 hc2 hu2=>?_
 have hp2:p2<d.size:=by omega
 refine BQ hs2 hp1 hp2 hc2 hcb fun h3 p3 q3 m3 e3 hs3 hc3 hu3=>?_
 exact hk _ q3 m3(by omega) hs3 hc3((hu1.tr hu2).tr hu3)
theorem vq{x:Nat}(hs:SA dec M s h d)(h1:1≤x)(hx:x+1<d.size){c:Nat}{n:Int}(hc:h[c]?=some(.cells #[.int .i64 n] qB(0,0)))(hcb:¬M c){K:Int→af→Prop}
  (hk:∀h'(p:Nat) m,(x-1≤p∧p≤x+1)→SA dec M s h' d→h'[c]?=some(.cells #[.int .i64 m] qB(0,0))→Upd(·=c) h h'→K(p:Int) h'):
  HC PG cx[.slice s.a s.len s.cap,.int .i64 x,.pointer(some ⟨c,0,none⟩),qi][.c(.int .i64)] K h:=by
 refine kO s x(some ⟨c,0,none⟩) qi ?_;unfold gk;have hsm:=hs.small;have e1:ac .i64((x:Int)-1)=((x-1:Nat):Int):=by rw[cR(by omega)];omega
 have e2:ac .i64((x:Int)+1)=((x+1:Nat):Int):=by rw[cR(by omega)];omega
 rw[e1,e2];exact Ht hs(by omega)(by omega) hx hc hcb fun h' p m hp hs' hc' hu'=>hk h' p m(by omega) hs' hc' hu'
theorem Fj{a e:Nat}(hs:SA dec M s h d)(ha:a<e)(he:e≤d.size){K:Int×Int→af→Prop}
  (hk:∀h'(p:Nat)(n:Int),a≤p→p<e→SA dec M s h' d→Upd No h h'→K((p:Int),n) h'):
  HC PG eP [.slice s.a s.len s.cap,.int .i64 a,.int .i64 e,qi] [.c (.int .i64),.c (.int .i64)] K h:=by
 refine l8 s a e qi ?_;unfold g9;have hsm:=hs.small;have k0:=Upd.hnew No h [.int .i64 0] qB;have hc0:=bW h [.int .i64 0] qB;have hs0:=hs.upd0 k0;have hcb:¬M h.size:=fun hb=>by have:=hs.lt _ hb;omega
 simp only[At];generalize hnew h [.int .i64 0] qB=h0 at k0 hc0 hs0;have wl:ac .i64 ((e:Int)-(a:Int))=((e-a:Nat):Int):=by rw[cR (by omega)];omega
 have wq:ac .i64 (mG ((e-a:Nat):Int) 4)=(((e-a)/4:Nat):Int):=by
  rw[mF (by omega),cR (by omega)];omega
 have wm:∀k:Nat,k≤3→ac .i64 (((((e-a)/4:Nat):Int))*(k:Int))=(((e-a)/4*k:Nat):Int):=fun k hk=>by
  rw[Int.natCast_mul,cR];have:(e-a)/4*k≤1000000000*3:=Nat.mul_le_mul (by omega) hk;have:(((e-a)/4*k:Nat):Int)=(((e-a)/4:Nat):Int)*(k:Int):=Int.natCast_mul ..;omega
 have w1:=wm 1 (by omega);have w2:=wm 2 (by omega);have w3:=wm 3 (by omega);simp only[Int.cast_ofNat_Int]at w1 w2 w3;simp only[Bd,wl,wq];have w1':ac .i64 ((((e-a)/4:Nat):Int)*1)=(((e-a)/4*1:Nat):Int):=w1;have w2':ac .i64 ((((e-a)/4:Nat):Int)*2)=(((e-a)/4*2:Nat):Int):=w2;have w3':ac .i64 ((((e-a)/4:Nat):Int)*3)=(((e-a)/4*3:Nat):Int):=w3;rw[w1',w2',w3'];have wi:∀k:Nat,k≤3→ac .i64 ((a:Int)+(((e-a)/4*k:Nat):Int))=((a+(e-a)/4*k:Nat):Int):=fun k hk=>by
  have:(e-a)/4*k≤(e-a)/4*3:=Nat.mul_le_mul_left _ hk;rw[cR (by omega)];omega
 refine⟨by decide,by decide,by decide,?_⟩
 refine Join.intro (fun t h'=>∃p:Nat,t=(p:Int)∧a≤p∧p<e∧SA dec M s h' d∧Upd No h h'∧∃m,h'[h.size]?=some (.cells #[.int .i64 m] qB (0,0))) (fun R hR=>?_) ?_
 ·rw[wi 1 (by omega),wi 2 (by omega),wi 3 (by omega)]
  refine ay (fun h8=>?_)fun h8=>?_
  ·have h8:8≤e-a:=by omega
   refine Join.intro (fun t h'=>∃p q r:Nat,t=((p:Int),(q:Int),(r:Int))∧(a≤p∧p<e)∧(a≤q∧q<e)∧(a≤r∧r<e)∧SA dec M s h' d∧Upd No h h'∧∃m,h'[h.size]?=some (.cells #[.int .i64 m] qB (0,0))) (fun R2 hR2=>?_) ?_
   ·refine ay (fun h50=>?_)fun h50=>?_
    ·have h50:50≤e-a:=by omega
     refine vq hs0 (by omega) (by omega) hc0 hcb fun h1 p1 m1 e1 hs1 hc1 hu1=>?_
     refine vq hs1 (by omega) (by omega) hc1 hcb fun h2 p2 m2 e2 hs2 hc2 hu2=>?_
     refine vq hs2 (by omega) (by omega) hc2 hcb fun h3 p3 m3 e3 hs3 hc3 hu3=>?_
     exact hR2 _ _ ⟨p1,p2,p3,rfl,by omega,by omega,by omega,hs3,k0.trans ((hu1.tr hu2).tr hu3)fun b hb=>.inr (fh hb.symm),_,hc3⟩
    ·exact hR2 _ _ ⟨_,_,_,rfl,by omega,by omega,by omega,hs0,k0,_,hc0⟩
   ·rintro t h1 ⟨p,q,r,rfl,hp,hq,hr,hs1,hu1,m,hc1⟩
    refine Ht hs1 (by omega) (by omega) (by omega) hc1 hcb fun h2 p2 m2 e2 hs2 hc2 hu2=>?_
    exact hR _ _ ⟨p2,rfl,by omega,by omega,hs2,hu1.trans hu2 fun b hb=>.inr (fh hb.symm),_,hc2⟩
  ·exact hR _ _ ⟨_,rfl,by omega,by omega,hs0,k0,_,hc0⟩
 ·rintro t h1 ⟨p,rfl,hp1,hp2,hs1,hu1,m,hc1⟩
  refine⟨m,by rw[cH,bj hc1];rfl,CondP.intro (fun _=>hk _ p _ hp1 hp2 hs1 hu1)fun _=>CondP.intro (fun _=>hk _ p _ hp1 hp2 hs1 hu1)fun _=>hk _ p _ hp1 hp2 hs1 hu1⟩
end Go.Proofs
namespace Go.Proofs
open Go Go.Lift Go.Sort
variable {dec:Int→Ch} {M:Nat→Prop} {s:SliceV} {h:af} {d:Array Int}
theorem RH(x:Int):ac .u64 x=x%18446744073709551616:=by
 simp[ac,ak,IntKind.signed]
theorem and_le_right(x:Int){m:Int}(h0:0≤m)(hm:m<18446744073709551616):0≤ac .u64 ((aw (ak .u64) x&&&aw (ak .u64) m).toNat:Int)∧ac .u64 ((aw (ak .u64) x&&&aw (ak .u64) m).toNat:Int)≤m:=by
 have h1:(aw (ak .u64) x&&&aw (ak .u64) m).toNat≤(aw (ak .u64) m).toNat:=by
  rw[BitVec.toNat_and];exact Nat.and_le_right
 have h2:((aw (ak .u64) m).toNat:Int)=m:=by
  show((aw 64 m).toNat:Int)=m
  rw[BitVec.toNat_ofInt];have:m%((2^64:Nat):Int)=m:=Int.emod_eq_of_lt h0 (by omega);rw[this];omega
 rw[RH];omega
theorem Mz{n:Nat}(h1:1≤n)(hn:n≤1000000000){K:Int→af→Prop}(hk:∀m:Nat,1≤m→m≤2*n→K(m:Int) h):HC PG j5 [.int .i64 n] [.c (.int .u64)] K h:=by
 refine uK n ?_;unfold oW;rw[show ac .u64 (n:Int)=(n:Int)by rw[RH];omega]
 refine ME (by omega)fun L hL hp=>⟨by omega,?_⟩
 have:=hp h1;have e:ac .u64 (1*2^(min ((L:Int)).toNat (ak .u64)))=((2^L:Nat):Int):=by
  rw[RH,show min ((L:Int)).toNat (ak .u64)=L by simp[ak];omega,Int.one_mul]
  have h2:(2:Int)^L=((2^L:Nat):Int):=by simp
  rw[h2];generalize 2^L=P at this⊢;omega
 rw[e];exact hk _ (Nat.one_le_two_pow) this
theorem JN{c:Nat}{n:Int}{t:TypeId}(hc:h[c]?=some(.cells #[.int .u64 n] t(0,0))){K:Int→af→Prop}
  (hk:∀h' m,h'[c]?=some(.cells #[.int .u64 m] t(0,0))→Upd(·=c) h h'→K m h'):HC PG kI[.pointer(some ⟨c,0,none⟩)][.c(.int .u64)] K h:=by
 refine vK(some ⟨c,0,none⟩) ?_;unfold pF;have set:∀{h:af}{n:Int}(m:Int),h[c]?=some(.cells #[.int .u64 n] t(0,0))→(hset h ⟨c,0,none⟩ (.int .u64 m))[c]?=some(.cells #[.int .u64 m] t(0,0))∧Upd(·=c) h(hset h ⟨c,0,none⟩ (.int .u64 m))∧Wr h ⟨c,0,none⟩:=fun m hc=>by
  refine⟨?_,Upd.hset _ _ rfl,ir hc(by simp)⟩;rw[uC hc,jo hc];rfl
 have ld:∀{h:af}{n:Int},h[c]?=some(.cells #[.int .u64 n] t(0,0))→aN h ⟨c,0,none⟩=some(.int .u64 n):=fun hc=>by rw[bj hc];rfl
 refine⟨_,rfl,_,ld hc,_,rfl,_,ld hc,by omega,_,rfl,?_⟩
 obtain⟨s1,k1,w1⟩:=set _ hc;refine⟨w1,_,rfl,_,ld s1,_,rfl,_,ld s1,by omega,_,rfl,?_⟩
 obtain⟨s2,k2,w2⟩:=set _ s1;refine⟨w2,_,rfl,_,ld s2,_,rfl,_,ld s2,by omega,_,rfl,?_⟩
 obtain⟨s3,k3,w3⟩:=set _ s2;exact⟨w3,_,rfl,_,ld s3,hk _ _ s3((k1.tr k2).tr k3)⟩
theorem B8{a e:Nat}(hs:SA dec M s h d)(ha:a≤e)(he:e≤d.size){K:Unit→af→Prop}(hk:∀h' d',SA dec M s h' d'→PermIn a e d d'→Upd M h h'→K() h'):
  HC PG eC [.slice s.a s.len s.cap,.int .i64 a,.int .i64 e,qi] [] K h:=by
 refine lh s a e qi ?_;unfold gG aj bP;have hsm:=hs.small;have wl:ac .i64 ((e:Int)-(a:Int))=((e-a:Nat):Int):=by rw[cR (by omega)];omega
 rw[wl];refine ay (fun h8=>?_)fun h8=>hk h d hs (permIn_refl ..) (Upd.refl _ _)
 have h8:8≤e-a:=by omega
 have k0:=Upd.hnew No h [.int .u64 0] ig;have hc0:=bW h [.int .u64 0] ig;have hs0:=hs.upd0 k0;have hcb:¬M h.size:=fun hb=>by have:=hs.lt _ hb;omega
 simp only[At,cH];generalize hnew h [.int .u64 0] ig=h0 at k0 hc0 hs0;refine⟨ir hc0 (by simp),?_⟩;have k1:Upd (·=h.size) h0 (hset h0 ⟨h.size,0,none⟩ (.int .u64 (ac .u64 ((e-a:Nat):Int)))):=Upd.hset _ _ rfl
 have hc1:(hset h0 ⟨h.size,0,none⟩ (.int .u64 (ac .u64 ((e-a:Nat):Int))))[h.size]?=some (.cells #[.int .u64 (ac .u64 ((e-a:Nat):Int))] ig (0,0)):=by
  rw[uC hc0,jo hc0];rfl
 have hs1:=hs0.updC k1 hcb;generalize hset h0 ⟨h.size,0,none⟩ (.int .u64 (ac .u64 ((e-a:Nat):Int)))=h1 at k1 hc1 hs1;refine Mz (by omega) (by omega)fun m hm1 hm2=>⟨by decide,?_⟩
 have wq:ac .i64 (ac .i64 (mG ((e-a:Nat):Int) 4)*2)=(((e-a)/4*2:Nat):Int):=by
  rw[mF (by omega),cR (x:=((e-a:Nat):Int)/4) (by omega),cR (by omega)];omega
 simp only[Bd];rw[wq];have w0:ac .i64 (ac .i64 ((a:Int)+(((e-a)/4*2:Nat):Int))-1)=((a+(e-a)/4*2-1:Nat):Int):=by
  rw[cR (x:=(a:Int)+_) (by omega),cR (by omega)];omega
 have w2:ac .i64 (ac .i64 ((a:Int)+(((e-a)/4*2:Nat):Int))+1)=((a+(e-a)/4*2+1:Nat):Int):=by
  rw[cR (x:=(a:Int)+_) (by omega),cR (by omega)];omega
 rw[w0];refine LoopP.ghost (fun(g:Nat×Array Int) (t:Int) h'=>t=(g.1:Int)∧SA dec M s h' g.2∧PermIn a e d g.2∧Upd M h h'∧(∃n,h'[h.size]?=some (.cells #[.int .u64 n] ig (0,0)))∧a+(e-a)/4*2-1≤g.1∧g.1≤a+(e-a)/4*2+2) (fun g=>a+(e-a)/4*2+2-g.1) (a+(e-a)/4*2-1,d)
  ⟨rfl,hs1,permIn_refl ..,k0.wide.trans k1 fun x hx=>.inr (by omega),⟨_,hc1⟩,au _,by simp only;omega⟩ ?_
 rintro I ⟨i,d1⟩ t h2 ⟨ht,hs2,hp2,hu2,⟨n2,hc2⟩,hi1,hi2⟩ hI;simp only at ht hs2 hp2 hi1 hi2;subst ht;have hz:d1.size=d.size:=hp2.1;refine⟨by decide,?_⟩;rw[w2];refine ay (fun hle=>?_)fun hgt=>hk h2 d1 hs2 hp2 hu2
 have hle:i≤a+(e-a)/4*2+1:=by omega
 refine JN hc2 fun h3 r hc3 hu3=>?_
 have hs3:=hs2.updC hu3 hcb;have wm:ac .u64 ((m:Int)-1)=((m-1:Nat):Int):=by rw[RH];omega
 rw[wm];obtain⟨a0,a1⟩:=and_le_right r (m:=((m-1:Nat):Int)) (by omega) (by omega);generalize ac .u64 ((aw (ak .u64) r&&&aw (ak .u64) ((m-1:Nat):Int)).toNat:Int)=o at a0 a1;have wo:ac .i64 o=o:=cR (by omega);refine Join.intro (fun t h'=>h'=h3∧∃q:Nat,t=(q:Int)∧q<e-a) (fun R hR=>?_) ?_
 ·show CondP (decide (ac .i64 o≥((e-a:Nat):Int))) _ _
  rw[wo];refine ay (fun h4=>hR _ _ ⟨rfl,(o-((e-a:Nat):Int)).toNat,?_,by omega⟩)fun h4=>hR _ _ ⟨rfl,o.toNat,by omega,by omega⟩
  show ac .i64 (o-((e-a:Nat):Int))=_
  rw[cR (by omega)];omega
 ·rintro t h' ⟨rfl,q,rfl,hq⟩
  have wj:ac .i64 ((a:Int)+(q:Int))=((a+q:Nat):Int):=by rw[cR (by omega)];omega
  refine hs3.swap (i:=i) (j:=a+q) rfl wj (by omega) (by omega)fun h5 hs5 hu5=>?_
  refine hI (i+1,swp d1 i (a+q)) _ _ ⟨by rw[cR (by omega)];rfl,hs5,permIn_trans _ _ _ _ _ hp2 (swp_permIn d1 a e i (a+q) (by omega) (by omega) (by omega) (by omega) (by omega)),?_,⟨r,hu5.get hc3 hcb⟩,by simp only;omega,by simp only;omega⟩ (by simp only;omega)
  exact(hu2.trans hu3 fun x hx=>.inr (by omega)).tr hu5
end Go.Proofs
namespace Go.Proofs
open Go Go.Lift Go.Sort
variable {dec:Int→Ch} {M:Nat→Prop} {s:SliceV} {h:af} {d:Array Int}
theorem Qj:SWO (j1 dec):=⟨fun x=>woG.irr _,fun x y z h1 h2=>by
 unfold j1 Si at*
 exact decide_eq_true (dV (of_decide_eq_true h1) (of_decide_eq_true h2)),fun x y z h1 h2=>woG.ntr _ _ _ h1 h2⟩
theorem Tf:∀(n:Nat) {a e:Nat} {lim:Int} {h:af} {d:Array Int} {K:Unit→af→Prop},e-a=n→SA dec M s h d→a≤e→e≤d.size→Go.Sort.Below (j1 dec) a e d→
  (∀h' d',SA dec M s h' d'→PermIn a e d d'→SortedIn (j1 dec) a e d'→Upd M h h'→K () h')→HC PG cW [.slice s.a s.len s.cap,.int .i64 a,.int .i64 e,.int .i64 lim,qi] [] K h:=by
 intro n;induction n using Nat.strongRecOn with
 |_ n ih=>
 intro a e lim h d K hn hs ha he hB hk;refine iV s a e lim qi ?_;unfold fL aj bP;have hsm:=hs.small;refine LoopP.ghost (fun(g:Nat×Nat×Array Int) (t:Int×Int×Int×Bool×Bool) h'=>t.1=(g.1:Int)∧t.2.1=(g.2.1:Int)∧SA dec M s h' g.2.2∧g.2.2.size=d.size∧(a≤g.1∧g.1≤g.2.1∧g.2.1≤e)∧Go.Sort.Below (j1 dec) g.1 g.2.1 g.2.2∧
   (∀R,PermIn g.1 g.2.1 g.2.2 R→SortedIn (j1 dec) g.1 g.2.1 R→PermIn a e d R∧SortedIn (j1 dec) a e R)∧Upd M h h') (fun g=>g.2.1-g.1) (a,e,d)
  ⟨rfl,rfl,hs,rfl,⟨au _,ha,au _⟩,hB,fun R h1 h2=>⟨h1,h2⟩,Upd.refl _ _⟩ ?_
 rintro I ⟨a1,e1,d1⟩ ⟨t1,t2,l1,wb,wp⟩ h1 ⟨ht1,ht2,hs1,hz1,⟨haa,hae,hee⟩,hB1,hfin,hu1⟩ hI;simp only at ht1 ht2 hs1 hz1 haa hae hee hB1 hfin;subst ht1 ht2;have he1:e1≤d1.size:=by omega
 have wl:ac .i64 ((e1:Int)-(a1:Int))=((e1-a1:Nat):Int):=by rw[cR (by omega)];omega
 simp only;rw[wl];refine ay (fun hle=>?_)fun hgt=>?_
 ·refine MQ hs1 hae he1 fun h2 hs2 hu2=>?_
  obtain⟨p1,p2⟩:=insertionSort_holds Qj d1 a1 e1 hae he1;obtain⟨q1,q2⟩:=hfin _ p1 p2;exact hk _ _ hs2 q1 q2 (hu1.tr hu2)
 have hgt:12<e1-a1:=by omega
 refine CondP.intro (fun _=>?_)fun _=>?_
 ·refine KS hs1 hae he1 fun h2 hs2 hu2=>?_
  obtain⟨p1,p2⟩:=heapSort_holds Qj d1 a1 e1 hae he1;obtain⟨q1,q2⟩:=hfin _ p1 p2;exact hk _ _ hs2 q1 q2 (hu1.tr hu2)
 refine Join.intro (fun _ h'=>∃d2,SA dec M s h' d2∧PermIn a1 e1 d1 d2∧Upd M h h') (fun R hR=>?_) ?_
 ·refine CondP.intro (fun _=>?_)fun _=>hR _ _ ⟨d1,hs1,permIn_refl ..,hu1⟩
  exact B8 hs1 hae he1 fun h2 d2 hs2 hp2 hu2=>hR _ _ ⟨d2,hs2,hp2,hu1.tr hu2⟩
 rintro lim2 h2 ⟨d2,hs2,hp2,hu2⟩;have hz2:d2.size=d.size:=by rw[hp2.1,hz1]
 refine Fj hs2 (by omega) (by omega)fun h3 p hn1 hpa hpe hs3 hu3=>?_
 refine Join.intro (fun t h'=>∃(q:Nat) (d3:Array Int),t.1=(q:Int)∧a1≤q∧q<e1∧SA dec M s h' d3∧PermIn a1 e1 d1 d3∧Upd M h h') (fun R hR=>?_) ?_
 ·refine CondP.intro (fun _=>?_)fun _=>hR _ _ ⟨p,d2,rfl,hpa,hpe,hs3,hp2,hu2.tr hu3.wide⟩
  refine Kd hs3 (by omega) (by omega)fun h4 hs4 hu4=>hR _ _ ⟨e1-1-(p-a1),_,?_,by omega,by omega,hs4,permIn_trans _ _ _ _ _ hp2 (reverseRange_holds d2 a1 e1 hae (by omega)),(hu2.tr hu3.wide).tr hu4⟩
  show ac .i64 (ac .i64 ((e1:Int)-1)-ac .i64 ((p:Int)-(a1:Int)))=_
  rw[cR (x:=(e1:Int)-1) (by omega),cR (x:=(p:Int)-(a1:Int)) (by omega),cR (by omega)];omega
 rintro⟨q1,hint⟩ h4 ⟨q,d3,hq,hqa,hqe,hs4,hp4,hu4⟩;simp only at hq;subst hq;have hz3:d3.size=d.size:=by rw[hp4.1,hz1]
 have hB3:Go.Sort.Below (j1 dec) a1 e1 d3:=hB1.perm he1 hp4;refine Join.intro (fun _ h'=>∃d4,SA dec M s h' d4∧PermIn a1 e1 d1 d4∧Upd M h h') (fun R hR=>?_) ?_
 ·refine Join.intro (fun _ h'=>h'=h4) (fun R2 hR2=>CondP.intro (fun _=>CondP.intro (fun _=>hR2 _ _ rfl)fun _=>hR2 _ _ rfl)fun _=>hR2 _ _ rfl) ?_
  rintro _ h5 rfl;refine CondP.intro (fun _=>?_)fun _=>hR _ _ ⟨d3,hs4,hp4,hu4⟩
  refine Gc hs4 (by omega) (by omega)fun h6 hs6 hu6=>?_
  obtain⟨p1,p2⟩:=partialInsertionSort_holds Qj d3 a1 e1 (by omega) (by omega) hB3;refine CondP.intro (fun hb=>?_)fun _=>hR _ _ ⟨_,hs6,permIn_trans _ _ _ _ _ hp4 p1,hu4.tr hu6⟩
  obtain⟨r1,r2⟩:=hfin _ (permIn_trans _ _ _ _ _ hp4 p1) (p2 hb);exact hk _ _ hs6 r1 r2 (hu4.tr hu6)
 rintro _ h5 ⟨d4,hs5,hp5,hu5⟩;have hz4:d4.size=d.size:=by rw[hp5.1,hz1]
 have hB4:Go.Sort.Below (j1 dec) a1 e1 d4:=hB1.perm he1 hp5;refine Join.intro (fun t h'=>SA dec M s h' d4∧Upd No h5 h'∧(t=true→0<a1∧(j1 dec) d4[a1-1]! d4[q]!=false)) (fun R hR=>?_) ?_
 ·refine ay (fun h6=>?_)fun _=>hR _ _ ⟨hs5,Upd.refl _ _,fun e=>by cases e⟩
  refine hs5.less (i:=a1-1) (j:=q) (by rw[cR (by omega)];omega) rfl (by omega) (by omega)fun hL eL hsL kL heL=>hR _ _ ⟨hsL,kL,fun e=>⟨by omega,by rw[heL]at e;simpa using e⟩⟩
 rintro t h6 ⟨hs6,k6,ht⟩;have hu6:=hu5.tr k6.wide;refine CondP.intro (fun ht1=>?_)fun _=>?_
 ·obtain⟨h7,h8⟩:=ht ht1
  refine O8 hs6 hqa hqe (by omega)fun h9 hs9 hu9=>?_
  cases hx:partitionEqual (j1 dec) d4 a1 e1 q with
  |mk mid d5=>
   rw[hx]at hs9;obtain⟨m1,m2,m3,m4,m5⟩:=round_eq Qj (partitionEqual_holds _) h7 hqa hqe (by omega) hB4 h8 hx;refine hI (mid,e1,d5) _ _ ⟨rfl,rfl,hs9,by simp only;omega,⟨by simp only;omega,m2,hee⟩,m4,fun R r1 r2=>?_,hu6.tr hu9⟩ (by simp only;omega)
   obtain⟨x1,x2⟩:=m5 R r1 r2;exact hfin R (permIn_trans _ _ _ _ _ hp5 x1) x2
 ·refine R9 hs6 hqa hqe (by omega)fun h9 hs9 hu9=>?_
  cases hx:partition (j1 dec) d4 a1 e1 q with
  |mk mid r=>
   obtain⟨ap,d5⟩:=r;rw[hx]at hs9;obtain⟨m1,m2,m3,m4,m5,m6,m7⟩:=round_part Qj (partition_holds _) hqa hqe (by omega) hB4 hx;simp only at hs9⊢;refine⟨by decide,?_⟩;have w1:ac .i64 ((mid:Int)-(a1:Int))=((mid-a1:Nat):Int):=by rw[cR (by omega)];omega
   have w2:ac .i64 ((e1:Int)-(mid:Int))=((e1-mid:Nat):Int):=by rw[cR (by omega)];omega
   have w3:ac .i64 ((mid:Int)+1)=((mid+1:Nat):Int):=by rw[cR (by omega)];omega
   rw[w1,w2,w3];refine ay (fun _=>?_)fun _=>?_
   ·refine ih (mid-a1) (by omega) rfl hs9 m1 (by omega) m4 fun h10 d6 hs10 hp10 hq10 hu10=>?_
    obtain⟨y1,y2⟩:=m6 d6 hp10 hq10;have hz6:=hp10.1;refine hI (mid+1,e1,d6) _ _ ⟨rfl,rfl,hs10,by simp only;omega,⟨by simp only;omega,by simp only;omega,hee⟩,y1,fun R r1 r2=>?_,(hu6.tr hu9).tr hu10⟩ (by simp only;omega)
    obtain⟨x1,x2⟩:=y2 R r1 r2;exact hfin R (permIn_trans _ _ _ _ _ hp5 x1) x2
   ·refine ih (e1-(mid+1)) (by omega) rfl hs9 (by omega) (by omega) m5 fun h10 d6 hs10 hp10 hq10 hu10=>?_
    obtain⟨y1,y2⟩:=m7 d6 hp10 hq10;have hz6:=hp10.1;refine hI (a1,mid,d6) _ _ ⟨rfl,rfl,hs10,by simp only;omega,⟨haa,m1,by simp only;omega⟩,y1,fun R r1 r2=>?_,(hu6.tr hu9).tr hu10⟩ (by simp only;omega)
    obtain⟨x1,x2⟩:=y2 R r1 r2;exact hfin R (permIn_trans _ _ _ _ _ hp5 x1) x2
theorem EQ{d d':Array Int}(hp:PermIn 0 d.size d d'):d'.toList.Perm d.toList:=by
 have:=hp.2.2;have e1:d'.extract 0 d.size=d':=by rw[←hp.1];simp
 rw[e1]at this;simpa using this
theorem Qk{M:Nat→Prop}{h:af}{s:SliceV}{L X:List Ch}(ho:OwnS jv 5 aM M h s L)(hp:L.Perm X)(hX:gL X)(hn:L.length≤100000000)(hM:∀b,M b→b<h.size){K:Unit→af→Prop}(hk:∀h',OwnS jv 5 aM M h' s X→Upd M h h'→K() h'):
  HC PG cq [.slice s.a s.len s.cap,.func (.func my) #[] #[]] [] K h:=by
 refine gc s _ ?_;unfold d9;have hlen:=ho.len;rw[Go.IntWalk.u64_in _ (by omega)];refine ME (by omega)fun L0 _ _=>?_
 let dec:Int→Ch:=fun i=>L[i.toNat]?.getD (⟨#[]⟩,⟨#[]⟩,⟨#[]⟩,false,false)
 let d:Array Int:=((gu L.length).map fun i:Nat=>(i:Int)).toArray
 have hd:d.toList.map dec=L:=by
  apply List.ext_getElem?;intro i;rw[List.getElem?_map];show(((gu L.length).map fun i:Nat=>(i:Int))[i]?).map dec=_
  rw[List.getElem?_map];by_cases hi:i<L.length
  ·rw[List.getElem?_range hi,ai hi]
   show some (L[((i:Int)).toNat]?.getD _)=_
   rw[Int.toNat_natCast,ai hi];rfl
  ·rw[lR (by rw[List.length_range];omega),lR (by omega)];rfl
 have hz:d.size=L.length:=by simp[d]
 have hs:SA dec M s h d:=⟨by rw[hd];exact ho,by omega,hM⟩
 have e1:((s.len:Nat):Int)=((d.size:Nat):Int):=by rw[hz,hlen]
 rw[e1];refine Tf (a:=0) (e:=d.size) _ rfl hs (bf _) (au _) (.inl rfl)fun h' d' hs' hp' hq hu=>?_
 have hpm:=EQ hp';have hL:(d'.toList.map dec).Perm L:=by
  have:=hpm.map dec;rw[hd]at this;exact this
 have hS:Srt Si (d'.toList.map dec):=by
  unfold Srt;rw[List.pairwise_map,List.pairwise_iff_getElem];intro i j hi hj hij;have hz2:=hp'.1;have:=hq i j (bf _) hij (by rw[←hz2];simpa using hj);rw[getElem!_pos d' j (by simpa using hj),getElem!_pos d' i (by simpa using hi)]at this;have this:Si (dec d'[j]) (dec d'[i])=false:=this;simpa only[Array.getElem_toList]using this
 have:=JU (hL.trans hp) hS hX;subst this;exact hk h' hs'.own hu
end Go.Proofs
namespace Go.Proofs
open Go Go.Lift
theorem yY{W W':Nat→Prop}{x x':Hs}{h:af}{kind kind':Int}{t u:Tr}{l l':List Pr}(i:TreeIs W h kind x t l)(i':TreeIs W' h kind' x' u l')(hr:bU l)(hf:Fit l)(hn:l.length≤60000)(hr':bU l')(hf':Fit l')(hn':l'.length≤60000){K:SliceV×Int→af→Prop}
  (h0:pj t u=false→∀h',Upd No h h'→K(⟨none,0,0⟩,11) h')(hk:pj t u=true→∀h' s',OwnS jv 5 aM(fun y=>h.size≤y) h' s'(iH l l')→Upd No h h'→K(s',0) h'):HC PG oV [LZ t,LZ u] [.c .slice,.c (.int .i64)] K h:=
 Fe i i' hr hf hn hr' hf' hn' (fun _ {_ _ _ _ _} ho hM hp hk=>Qk ho hp (ml hr hr') (by have:=hp.length_eq;have:=rK hr hr';omega) hM hk) h0 hk
end Go.Proofs
namespace Go.Proofs
open Go Go.Lift
theorem Few.mono{n m:Nat}{L:List Pr}(f:Few n L)(h:n≤m):Few m L:=⟨f.up,bJ f.len h,f.fit⟩
theorem xC:∀{l m r:List Ch},jy l m=some r→r.length≤l.length+m.length
 | [],m,r,h=>by rw[kH]at h;cases h;exact Nat.le_add_left ..
 |a::l,[],r,h=>by rw[qa]at h;cases h;exact au _
 |a::l,b::m,r,h=>by
  rw[mu]at h;split at h
  ·obtain⟨q,hq,rfl⟩:=fg.1 h
   have:=xC hq;simp only[ao]at*;omega
  ·split at h
   ·obtain⟨q,hq,rfl⟩:=fg.1 h
    have:=xC hq;simp only[ao]at*;omega
   ·split at h
    ·obtain⟨q,hq,rfl⟩:=fg.1 h
     have:=xC hq;have h1:(one (zU a b)).toList.length≤1:=by cases one (zU a b)<;>simp
     simp only[ao,List.length_append]at*;omega
    ·cases h
termination_by l m=>l.length+m.length
theorem Pe{l m:List Ch}:(uB l m).2.length≤l.length+m.length:=by
 unfold uB;split
 ·exact bf _
 ·split
  ·exact bf _
  ·split
   ·exact bf _
   ·rename_i r h;exact xC h
theorem Oj{h:af}{t:Tr}{r:Rt}{G:af→af→Prop}(hk:∀h1 h',Upd No h h'→h'[h.size]?=some(.cells(pX t).toArray bE(0,0))→h'[h1.size]?=some(.cells(ww r).toArray dH(0,0))→h.size<h1.size→G h1 h'):
  At(hnew h(pX Ig) bE)fun h1=>At(hnew h1(ww Qs) dH)fun h2=>dq h2(some(ag h)) 0(pX t)∧At(aV h2(ag h) 0(pX t))fun h3=>dq h3(some(ag h1)) 0(ww r)∧At(aV h3(ag h1) 0(ww r))fun h4=>G h1 h4:=by
 refine bH fun h1 b1 k1=>bH fun h2 b2 k2=>?_
 have z1:=bD b1;refine dd(c:=pX Ig)(vs:=pX t)(k2.get0 b1) rfl fun h3 b3 hu3=>?_
 refine dd(c:=ww Qs)(vs:=ww r)(hu3.oth b2(by omega)) rfl fun h4 b4 hu4=>?_
 exact hk h1 h4(((k1.tr k2).own hu3(au _)).own hu4 k1.size)(hu4.oth b3(by omega)) b4 z1
set_option maxHeartbeats 1000000 in
set_option maxRecDepth 100000 in
theorem IZ{h:af}{k:Int}{x:Hs}{sl sm sn sg sc sd:SliceV}{l m n:List Pr}{g:List ByteArray}{c d:List Ch}(hl:Sl ee 2 No h sl l)(hll:l.length≤9223372036854775807)(hm:Sl ee 2 No h sm m)(hml:m.length≤9223372036854775807)(hn:Sl ee 2 No h sn n)(hnl:n.length≤9223372036854775807)(hg:Sl T0 1 No h sg g)(hgl:g.length≤9223372036854775807)
  (hc:Sl jv 5 No h sc c)(hcl:c.length≤9223372036854775807)(hd:Sl jv 5 No h sd d)(hdl:d.length≤9223372036854775807)(hk0:0≤k)(hk1:k≤255):
  HC PG vU [.int .u8 k,.agg #[.int .u64 x.k0,.int .u64 x.k1,.int .u64 x.mask],.slice sl.a sl.len sl.cap,.slice sm.a sm.len sm.cap,.slice sn.a sn.len sn.cap,.slice sg.a sg.len sg.cap,.slice sc.a sc.len sc.cap,.slice sd.a sd.len sd.cap] [.c .bool] (fun b h'=>b=true∧Upd No h h') h:=by
 refine DL k (x.k0,x.k1,x.mask) sl sm sn sg sc sd ?_;unfold wn aj;refine bH fun h1 b1 k1=>M9 fun h3 k3=>al.2 ?_
 have c3:=k3.get0 b1;refine⟨_,vc c3 0,_,vc c3 1,_,vc c3 2,?_⟩;refine M8 (W:=No) (x:=x) hk0 hk1 (fun _ h=>h.elim)fun h8 t r i8 j8 k8=>?_
 generalize ac .i64 (Int.tmod k 2)=kind at i8 j8;refine Oj (t:=t) (r:=r)fun h9 h12 k12 t12 x12 z9=>?_
 refine⟨_,vc t12 0,_,vc t12 1,_,vc t12 2,_,vc t12 3,_,vc t12 4,_,vc t12 5,_,vc x12 0,_,vc x12 1,_,vc x12 2,_,vc x12 3,r.2.2.2.2,vc x12 4,?_⟩;have k012:Upd No h h12:=((k1.tr k3).tr k8).tr k12;refine E4 (W:=No) (g:= []) (sg:=⟨none,0,0⟩) (i8.upd0 k12) (j8.upd0 k12) few_nil few_nil (by omega) (hl.upd k012 fun _ h=>h.elim) (Sl.nil fun _=>⟨rfl,by omega⟩) (fun _ h=>h.elim) hll (bf _)fun h25 ta ra i25 _ k25=>?_
 have i25:TreeIs No h25 kind x ta (iK [] l):=i25;have fA:Few 25 (iK [] l):=qb few_nil l;generalize iK [] l=A at i25 fA;refine Oj (t:=ta) (r:=ra)fun h26 h29 k29 a29 _ _=>?_
 have x29:=(k25.tr k29).get0 x12;refine⟨_,vc a29 0,_,vc a29 1,_,vc a29 2,_,vc a29 3,_,vc a29 4,_,vc a29 5,_,vc x29 0,_,vc x29 1,_,vc x29 2,_,vc x29 3,r.2.2.2.2,vc x29 4,?_⟩;have k1229:=k25.tr k29;have k029:=k012.tr k1229;refine E4 (W:=No) (i25.upd0 k29) (j8.upd0 (k12.tr k1229)) fA (few_nil.mono (by omega)) (by omega) (hm.upd k029 fun _ h=>h.elim) (hg.upd k029 fun _ h=>h.elim) (fun _ h=>h.elim) hml hgl fun h42 tb rb i42 _ k42=>?_
 have fB:Few 50 (rt (iK A m) g):=E7 (qb fA m) g;generalize rt (iK A m) g=B at i42 fB;refine Oj (t:=tb) (r:=rb)fun h43 h46 k46 b46 _ _=>?_
 have k2946:=k42.tr k46;have x46:=k2946.get0 x29;refine⟨_,vc b46 0,_,vc b46 1,_,vc b46 2,_,vc b46 3,_,vc b46 4,_,vc b46 5,_,vc x46 0,_,vc x46 1,_,vc x46 2,_,vc x46 3,r.2.2.2.2,vc x46 4,?_⟩;have k046:=k029.tr k2946;refine E4 (W:=No) (g:= []) (sg:=⟨none,0,0⟩) (i42.upd0 k46) (j8.upd0 ((k12.tr k1229).tr k2946)) fB (few_nil.mono (by omega)) (by omega) (hn.upd k046 fun _ h=>h.elim) (Sl.nil fun _=>⟨rfl,by omega⟩) (fun _ h=>h.elim) hnl (bf _)fun h59 te re i59 _ k59=>?_
 have i59:TreeIs No h59 kind x te (iK B n):=i59;have fE:Few 75 (iK B n):=qb fB n;generalize iK B n=E at i59 fE;refine Oj (t:=te) (r:=re)fun h60 h63 k63 e63 _ _=>?_
 have k4663:=k59.tr k63;have k063:=k046.tr k4663;have a63:=(k2946.tr k4663).get0 a29;have b63:=k4663.get0 b46;have iA:=i25.upd0 ((k29.tr k2946).tr k4663);have iB:=i42.upd0 (k46.tr k4663);have iE:=i59.upd0 k63;have nA:=fA.len;have nB:=fB.len;have nE:=fE.len;refine⟨_,vc a63 0,_,vc a63 1,_,vc a63 2,_,vc a63 3,_,vc a63 4,_,vc a63 5,_,vc b63 0,_,vc b63 1,_,vc b63 2,_,vc b63 3,_,vc b63 4,_,vc b63 5,?_⟩;refine yY iA iB fA.up fA.fits (by omega) fB.up fB.fits (by omega) (fun e=>by rw[xB iA iB]at e;cases e)fun _ h77 sp hp k77=>?_
 have b77:=k77.get0 b63;have e77:=k77.get0 e63;refine⟨_,vc b77 0,_,vc b77 1,_,vc b77 2,_,vc b77 3,_,vc b77 4,_,vc b77 5,_,vc e77 0,_,vc e77 1,_,vc e77 2,_,vc e77 3,_,vc e77 4,_,vc e77 5,?_⟩;refine yY (iB.upd0 k77) (iE.upd0 k77) fB.up fB.fits (by omega) fE.up fE.fits (by omega) (fun e=>by rw[xB iB iE]at e;cases e)fun _ h91 sq hq k91=>?_
 have k6391:=k77.tr k91;have a91:=k6391.get0 a63;have e91:=k91.get0 e77;refine⟨_,vc a91 0,_,vc a91 1,_,vc a91 2,_,vc a91 3,_,vc a91 4,_,vc a91 5,_,vc e91 0,_,vc e91 1,_,vc e91 2,_,vc e91 3,_,vc e91 4,_,vc e91 5,?_⟩;refine yY (iA.upd0 k6391) (iE.upd0 k6391) fA.up fA.fits (by omega) fE.up fE.fits (by omega) (fun e=>by rw[xB iA iE]at e;cases e)fun _ h105 sw hw k105=>?_
 have lp:=rK fA.up fB.up;have lq:=rK fB.up fE.up;have lw:=rK fA.up fE.up;have hp105:Sl jv 5 No h105 sp (iH A B):=(hp.sl fun _ _ _ h=>h).upd (k91.tr k105)fun _ h=>h.elim
 have hq105:Sl jv 5 No h105 sq (iH B E):=(hq.sl fun _ _ _ h=>h).upd k105 fun _ h=>h.elim
 have hw105:Sl jv 5 No h105 sw (iH A E):=hw.sl fun _ _ _ h=>h
 refine Df hp105 hq105 hp.cap hq.cap (by omega) (by omega) (Ez fA fB) (Ez fB fE)fun sj h107 hj k107=>?_
 rw[Pf fA.up fB.up fE.up]at hj⊢;have hj107:Sl jv 5 No h107 sj (iH A E):=hj.sl fun _ _ _ h=>h
 refine Join.intro (fun t h'=>t=false∧h'=h107) (fun R hR=>al.2 (Ld hj107 (hw105.upd k107 fun _ h=>h.elim) (by omega) (hR _ _ ⟨by simp,rfl⟩))) ?_
 rintro t h' ⟨rfl,rfl⟩;refine al.2 ?_;have k0107:=((k063.tr k6391).tr k105).tr k107;refine K7 (hc.upd k0107 fun _ h=>h.elim) hcl fun s113 h114 h113 k114=>?_
 refine K7 (hd.upd (k0107.tr k114)fun _ h=>h.elim) hdl fun s115 h116 h115 k116=>?_
 have l1:=K6 c;have l2:=K6 d;have C116:Sl jv 5 No h116 s113 (E8 c):=(h113.sl fun _ _ _ h=>h).upd k116 fun _ h=>h.elim
 have D116:Sl jv 5 No h116 s115 (E8 d):=h115.sl fun _ _ _ h=>h
 refine Df C116 D116 h113.cap h115.cap (by omega) (by omega) (vi c) (vi d)fun s117 h118 h117 k118=>?_
 refine vG (C116.upd k118 fun _ h=>h.elim) (by omega)fun s119 h120 h119 k120=>?_
 have k18120:=k118.tr k120;refine vG (D116.upd k18120 fun _ h=>h.elim) (by omega)fun s121 h122 h121 k122=>?_
 have C122:Sl jv 5 No h122 s119 (E8 c):=(h119.sl fun _ _ _ h=>h).upd k122 fun _ h=>h.elim
 refine Mr C122 (h121.sl (W:=No)fun _ _ _ h=>h) (by omega) (by omega) (vi c) (vi d)fun s123 h124 h123 k124=>?_
 rw[beq_self_eq_true];refine ar.2 ?_;have lj:(uB (E8 c) (E8 d)).2.length≤40:=bJ Pe (by omega);have k18124:=(k120.tr k122).tr k124;refine vG ((h117.sl (W:=No)fun _ _ _ h=>h).upd k18124 fun _ h=>h.elim) (by omega)fun s125 h126 h125 k126=>?_
 refine OO (h125.sl (W:=No)fun _ _ _ h=>h) ((h123.sl (W:=No)fun _ _ _ h=>h).upd k126 fun _ h=>h.elim) (by omega) ⟨decide_eq_true rfl,?_⟩
 exact(((k0107.tr k114).tr k116).tr (k118.tr k18124)).tr k126
end Go.Proofs
