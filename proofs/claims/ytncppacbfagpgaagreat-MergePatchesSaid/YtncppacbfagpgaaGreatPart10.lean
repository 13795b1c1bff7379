/- A part of the proof that the named laws of this program answer true, whatever the input. -/
import Derived.Test.YtncppacbfagpgaaGreatPart9
import Derived.Test.YtncppacbfagpgaaGreatPart8
open BitVec renaming ofInt→ar
open ByteArray renaming mk→lQ
open Int renaming tdiv→nn,tdiv_eq_ediv_of_nonneg→nm
open List renaming range→gf,getElem?_eq_getElem→ai,getElem?_eq_none→mp,pairwise_iff_getElem→cn,getElem_mem→bN,length_eq_zero_iff→aw,length_take→aQ,length_map→cV,pairwise_singleton→cq,mem_singleton→aB
open Nat renaming le_of_eq→eI,le_refl→aq,zero_le→bw,le_trans→bc,lt_or_ge→ct,lt_of_lt_of_le→aE
namespace Go.Proofs
open Go Go.Lift Go.Sort
variable {dec:Int→Ch} {M:Nat→Prop} {s:SliceV} {h:ad} {d:Array Int}
@[simp] theorem EU(lt:Int→Int→Bool):∀(j:Nat) (d:Array Int),(shiftDown lt j d).size=d.size
 |0,d=>rfl
 |j+1,d=>by rw[shiftDown];split;rfl;rw[EU lt j];simp
@[simp] theorem SP(lt:Int→Int→Bool)(e j:Nat)(d:Array Int):(shiftUp lt e j d).size=d.size:=by
 fun_induction shiftUp lt e j d<;>simp_all
theorem Gr{a e:Nat}(hs:SA dec M s h d)(ha:a<e)(he:e≤d.size){K:Bool→ad→Prop}(hk:∀h',SA dec M s h' (partialInsertionSort (kP dec) d a e).1→Upd M h h'→K (partialInsertionSort (kP dec) d a e).2 h'):
  HC PG dI [.slice s.a s.len s.cap,.int .i64 a,.int .i64 e,q9] [.c .bool] K h:=by
 refine jK s a e q9 ?_;unfold fG ay cj aD bX fC bI jJ ma;have hsm:=hs.small;refine LoopP.ghost (fun(g:Nat×Nat×Array Int) (t:Int×Int) h'=>t.1=(g.2.1:Int)∧t.2=5-(g.1:Int)∧SA dec M s h' g.2.2∧g.2.2.size=d.size∧partialIns (kP dec) a e g.1 g.2.1 g.2.2=partialInsertionSort (kP dec) d a e∧Upd M h h'∧g.1≤5∧a<g.2.1∧g.2.1≤e) (fun g=>g.1) (5,a+1,d)
  ⟨by simp only;rw[d8 (by omega)];rfl,by simp only;omega,hs,rfl,rfl,Upd.refl _ _,by simp,by simp,by simp only;omega⟩ ?_
 rintro I ⟨st,i0,d1⟩ ⟨t1,t2⟩ h1 ⟨ht1,ht2,hs1,hz1,hr1,hu1,hst,hai,hie⟩ hI;simp only at ht1 ht2 hs1 hz1 hr1 hst hai hie;subst ht1 ht2;refine aA (fun hlt=>?_) fun hge=>?_
 ·obtain⟨st,rfl⟩:∃k,st=k+1:=⟨st-1,by have:5-(st:Int)<5:=hlt;omega⟩
  refine Join.intro (fun t h'=>∃i2 d2,t=(i2:Nat)∧SA dec M s h' d2∧d2.size=d.size∧partialIns (kP dec) a e st i2 d2=partialInsertionSort (kP dec) d a e∧Upd M h h'∧a<i2∧i2≤e) (fun R hR=>?_) ?_
  ·refine LoopP.ghost (fun(i:Nat) (t:Int) h'=>t=(i:Int)∧SA dec M s h' d1∧Upd No h1 h'∧scanSorted (kP dec) d1 e i=scanSorted (kP dec) d1 e i0∧a<i∧i≤e) (fun i=>e-i) i0 ⟨rfl,hs1,Upd.refl _ _,rfl,hai,hie⟩ ?_
   rintro I2 i t h' ⟨rfl,hs2,k2,hsc,hai2,hie2⟩ hI2;refine Join.intro (fun c h''=>SA dec M s h'' d1∧Upd No h' h''∧(c=true↔i<e∧(kP dec) d1[i]! d1[i-1]! =false)) (fun R2 hR2=>?_) ?_
   ·refine aA (fun hle=>?_) fun hgt=>hR2 _ _ ⟨hs2,Upd.refl _ _,by simp;omega⟩
    exact hs2.less (i:=i) (j:=i-1) rfl (by rw[d8 (by omega)];omega) (by omega) (by omega) fun h3 e3 hs3 k3 he3=>hR2 _ _ ⟨hs3,k3,by rw[he3];simp;omega⟩
   ·rintro c h'' ⟨hs3,k3,hc⟩
    have huA:=hu1.tr (k2.tr k3).wide;refine CondP.intro (fun h2=>?_) fun h2=>?_
    ·have hh:=hc.1 h2
     refine hI2 (i+1) _ _ ⟨by rw[d8 (by omega)];rfl,hs3,k2.tr k3,?_,by omega,by omega⟩ (by omega)
     rw[←hsc];conv=>rhs;rw[scanSorted]
     rw[if_pos (by simp[hh])]
    ·have hsi:scanSorted (kP dec) d1 e i=i:=by
      rw[scanSorted,if_neg];intro hh;simp only[Bool.and_eq_true,decide_eq_true_iff,Bool.not_eq_eq_eq_not,Bool.not_true]at hh;rw[hc.2 hh]at h2;cases h2
     have hr2:=hr1;rw[partialIns]at hr2;simp only[←hsc,hsi]at hr2;refine CondP.intro (fun h3=>?_) fun h3=>?_
     ·have h3:i=e:=by
       have:(i:Int)=e:=by simpa using h3
       omega
      rw[if_pos h3]at hr2;rw[←hr2]at hk;exact hk _ hs3 huA
     ·have h3:i≠e:=fun e'=>by subst e';simp at h3
      rw[if_neg h3]at hr2;have we:IntKind.wrap .i64 ((e:Int)-(a:Int))=((e-a:Nat):Int):=by rw[d8 (by omega)];omega
      show CondP (decide (IntKind.wrap .i64 ((e:Int)-(a:Int))<50)) _ _
      rw[we];refine aA (fun h4=>?_) fun h4=>?_
      ·rw[if_pos (by omega)]at hr2
       rw[←hr2]at hk;exact hk _ hs3 huA
      ·rw[if_neg (by omega)]at hr2
       have hi1:1≤i:=by omega
       refine hs3.swap (i:=i) (j:=i-1) rfl (by rw[d8 (by omega)];omega) (by omega) (by omega) fun h5 hs5 hu5=>?_
       have hz5:(swp d1 i (i-1)).size=d.size:=by simp[hz1]
       generalize swp d1 i (i-1)=d5 at hs5 hz5 hr2;refine Join.intro (fun _ h'=>SA dec M s h' (if i-a≥2 then shiftDown (kP dec) (i-1) d5 else d5)∧Upd M h h') (fun R3 hR3=>?_) ?_
       ·have wi:IntKind.wrap .i64 ((i:Int)-(a:Int))=((i-a:Nat):Int):=by rw[d8 (by omega)];omega
        show CondP (decide (IntKind.wrap .i64 ((i:Int)-(a:Int))≥2)) _ _
        rw[wi];refine aA (fun h6=>?_) fun h6=>?_
        ·rw[if_pos (by omega)]at hR3
         refine LoopP.ghost (fun(g:Nat×Array Int) (t:Int) h'=>t=(g.1:Int)∧SA dec M s h' g.2∧g.2.size=d.size∧shiftDown (kP dec) g.1 g.2=shiftDown (kP dec) (i-1) d5∧Upd M h h'∧g.1<e) (fun g=>g.1) (i-1,d5)
          ⟨by rw[d8 (by omega)];simp only;omega,hs5,hz5,rfl,huA.tr hu5,by simp only;omega⟩ ?_
         rintro I4 ⟨j,d6⟩ t h7 ⟨ht,hs7,hz7,hr7,hu7,hje⟩ hI4;simp only at ht hs7 hz7 hr7 hje;subst ht;refine aA (fun h8=>?_) fun h8=>?_
         ·obtain⟨j,rfl⟩:∃k,j=k+1:=⟨j-1,by omega⟩
          have e1:IntKind.wrap .i64 (((j+1:Nat):Int)-1)=(j:Int):=by rw[d8 (by omega)];omega
          rw[shiftDown]at hr7;refine hs7.less (i:=j+1) (j:=j) rfl e1 (by omega) (by omega) fun hL eL hsL kL heL=>?_
          have huL:=hu7.tr kL.wide;rw[heL];refine CondP.intro (fun h9=>?_) fun h9=>?_
          ·rw[if_pos h9]at hr7
           exact hR3 _ _ ⟨by rw[←hr7];exact hsL,huL⟩
          ·rw[if_neg (by rw[h9];simp)]at hr7
           refine hsL.swap (i:=j+1) (j:=j) rfl e1 (by omega) (by omega) fun h10 hs10 hu10=>?_
           exact hI4 (j,swp d6 (j+1) j) _ _ ⟨e1,hs10,by simp[hz7],hr7,huL.tr hu10,by simp only;omega⟩ (by simp)
         ·have:j=0:=by omega
          subst this;exact hR3 _ _ ⟨by rw[←hr7];exact hs7,hu7⟩
        ·rw[if_neg (by omega)]at hR3
         exact hR3 _ _ ⟨hs5,huA.tr hu5⟩
       ·rintro _ h6 ⟨hs6,hu6⟩
        have hz6:(if i-a≥2 then shiftDown (kP dec) (i-1) d5 else d5).size=d.size:=by split<;>simp[hz5]
        generalize (if i-a≥2 then shiftDown (kP dec) (i-1) d5 else d5)=d6 at hs6 hz6 hr2
        have wi:IntKind.wrap .i64 ((e:Int)-(i:Int))=((e-i:Nat):Int):=by rw[d8 (by omega)];omega
        show CondP (decide (IntKind.wrap .i64 ((e:Int)-(i:Int))≥2)) _ _
        rw[wi];refine aA (fun h7=>?_) fun h7=>?_
        ·rw[if_pos (by omega)]at hr2
         refine LoopP.ghost (fun(g:Nat×Array Int) (t:Int) h'=>t=(g.1:Int)∧SA dec M s h' g.2∧g.2.size=d.size∧shiftUp (kP dec) e g.1 g.2=shiftUp (kP dec) e (i+1) d6∧Upd M h h'∧1≤g.1∧g.1≤e) (fun g=>e-g.1) (i+1,d6)
          ⟨by rw[d8 (by omega)];rfl,hs6,hz6,rfl,hu6,by simp,by simp only;omega⟩ ?_
         rintro I4 ⟨j,d7⟩ t h8 ⟨ht,hs8,hz8,hr8,hu8,hj1,hje⟩ hI4;simp only at ht hs8 hz8 hr8 hj1 hje;subst ht;refine aA (fun h9=>?_) fun h9=>?_
         ·have e1:IntKind.wrap .i64 ((j:Int)-1)=((j-1:Nat):Int):=by rw[d8 (by omega)];omega
          rw[shiftUp,if_pos (by omega)]at hr8;refine hs8.less (i:=j) (j:=j-1) rfl e1 (by omega) (by omega) fun hL eL hsL kL heL=>?_
          have huL:=hu8.tr kL.wide;rw[heL];refine CondP.intro (fun h10=>?_) fun h10=>?_
          ·rw[if_pos h10]at hr8
           exact hR _ _ ⟨i,d7,rfl,hsL,hz8,by rw[hr8];exact hr2,huL,hai2,hie2⟩
          ·rw[if_neg (by rw[h10];simp)]at hr8
           refine hsL.swap (i:=j) (j:=j-1) rfl e1 (by omega) (by omega) fun h11 hs11 hu11=>?_
           exact hI4 (j+1,swp d7 j (j-1)) _ _ ⟨by rw[d8 (by omega)];rfl,hs11,by simp[hz8],hr8,huL.tr hu11,by simp,by simp only;omega⟩ (by simp only;omega)
         ·rw[shiftUp,if_neg (by omega)]at hr8
          exact hR _ _ ⟨i,d7,rfl,hs8,hz8,by rw[hr8];exact hr2,hu8,hai2,hie2⟩
        ·rw[if_neg (by omega)]at hr2
         exact hR _ _ ⟨i,d6,rfl,hs6,hz6,hr2,hu6,hai2,hie2⟩
  ·rintro t h' ⟨i2,d2,rfl,hs2,hz2,hr2,hu2,hai2,hie2⟩
   exact hI (st,i2,d2) _ _ ⟨rfl,by simp only;rw[d8 (by omega)];omega,hs2,hz2,hr2,hu2,by simp only;omega,hai2,hie2⟩ (by simp)
 ·have:st=0:=by have:¬5-(st:Int)<5:=hge;omega
  subst this;rw[partialIns]at hr1;rw[←hr1]at hk;exact hk _ hs1 hu1
theorem Ci{x y:Nat}(hs:SA dec M s h d)(hx:x<d.size)(hy:y<d.size){c:Nat}{n:Int}(hc:h[c]? =some (.cells #[.int .i64 n] sA (0,0))) (hcb:¬M c) {K:Int×Int→ad→Prop}
  (hk:∀h' (p q:Nat) m,(p=x∧q=y∨p=y∧q=x)→SA dec M s h' d→h'[c]? =some (.cells #[.int .i64 m] sA (0,0))→Upd (· =c) h h'→K ((p:Int),(q:Int)) h'):
  HC PG dB [.slice s.a s.len s.cap,.int .i64 x,.int .i64 y,.pointer (some ⟨c,0,none⟩),q9] [.c (.int .i64),.c (.int .i64)] K h:=by
 refine pu s x y (some ⟨c,0,none⟩) q9 ?_;unfold jB cj aD bX bI ma;refine hs.less (i:=y) (j:=x) rfl rfl hy hx fun h0 e0 hs0 k0 he0=>?_
 have hc0:=k0.get0 hc;rw[he0];refine CondP.intro (fun h1=>?_) fun h1=>?_
 ·refine⟨_,rfl,n,by rw[bh hc0];rfl,_,rfl,iI hc0 (by simp),?_⟩
  have k:Upd (· =c) h0 (hset h0 ⟨c,0,none⟩ (.int .i64 (IntKind.wrap .i64 (n+1)))):=Upd.hset _ _ rfl
  refine hk _ y x (IntKind.wrap .i64 (n+1)) (.inr ⟨rfl,rfl⟩) (hs0.updC k hcb) ?_ (k0.wide.tr k);rw[vt hc0,jg hc0];rfl
 ·exact hk _ x y _ (.inl ⟨rfl,rfl⟩) hs0 hc0 k0.wide
theorem Ht{x y z:Nat}(hs:SA dec M s h d)(hx:x<d.size)(hy:y<d.size)(hz:z<d.size){c:Nat}{n:Int}(hc:h[c]? =some (.cells #[.int .i64 n] sA (0,0))) (hcb:¬M c) {K:Int→ad→Prop}
  (hk:∀h' (p:Nat) m,(p=x∨p=y∨p=z)→SA dec M s h' d→h'[c]? =some (.cells #[.int .i64 m] sA (0,0))→Upd (· =c) h h'→K (p:Int) h'):
  HC PG eE [.slice s.a s.len s.cap,.int .i64 x,.int .i64 y,.int .i64 z,.pointer (some ⟨c,0,none⟩),q9] [.c (.int .i64)] K h:=by
 refine pw s x y z (some ⟨c,0,none⟩) q9 ?_;unfold jC xI;refine Ci hs hx hy hc hcb fun h1 p1 q1 m1 e1 hs1 hc1 hu1=>?_
 have hq1:q1<d.size:=by omega
 have hp1:p1<d.size:=by omega
 refine Ci hs1 hq1 hz hc1 hcb fun h2 p2 q2 m2 e2 hs2 hc2 hu2=>?_
 have hp2:p2<d.size:=by omega
 refine Ci hs2 hp1 hp2 hc2 hcb fun h3 p3 q3 m3 e3 hs3 hc3 hu3=>?_
 exact hk _ q3 m3 (by omega) hs3 hc3 ((hu1.tr hu2).tr hu3)
theorem wB{x:Nat}(hs:SA dec M s h d)(h1:1≤x)(hx:x+1<d.size){c:Nat}{n:Int}(hc:h[c]? =some (.cells #[.int .i64 n] sA (0,0))) (hcb:¬M c) {K:Int→ad→Prop}
  (hk:∀h' (p:Nat) m,(x-1≤p∧p≤x+1)→SA dec M s h' d→h'[c]? =some (.cells #[.int .i64 m] sA (0,0))→Upd (· =c) h h'→K (p:Int) h'):
  HC PG cE [.slice s.a s.len s.cap,.int .i64 x,.pointer (some ⟨c,0,none⟩),q9] [.c (.int .i64)] K h:=by
 refine lG s x (some ⟨c,0,none⟩) q9 ?_;unfold gH bX;have hsm:=hs.small;have e1:IntKind.wrap .i64 ((x:Int)-1)=((x-1:Nat):Int):=by rw[d8 (by omega)];omega
 have e2:IntKind.wrap .i64 ((x:Int)+1)=((x+1:Nat):Int):=by rw[d8 (by omega)];omega
 rw[e1,e2];exact Ht hs (by omega) (by omega) hx hc hcb fun h' p m hp hs' hc' hu'=>hk h' p m (by omega) hs' hc' hu'
theorem FJ{a e:Nat}(hs:SA dec M s h d)(ha:a<e)(he:e≤d.size){K:Int×Int→ad→Prop}
  (hk:∀h' (p:Nat) (n:Int),a≤p→p<e→SA dec M s h' d→Upd No h h'→K ((p:Int),n) h'):
  HC PG eX [.slice s.a s.len s.cap,.int .i64 a,.int .i64 e,q9] [.c (.int .i64),.c (.int .i64)] K h:=by
 refine mI s a e q9 ?_;unfold iC bX;have hsm:=hs.small;have k0:=Upd.hnew No h [.int .i64 0] sA;have hc0:=bZ h [.int .i64 0] sA;have hs0:=hs.upd0 k0;have hcb:¬M h.size:=fun hb=>by have:=hs.lt _ hb;omega
 simp only[At];generalize hnew h [.int .i64 0] sA=h0 at k0 hc0 hs0;have wl:IntKind.wrap .i64 ((e:Int)-(a:Int))=((e-a:Nat):Int):=by rw[d8 (by omega)];omega
 have wq:IntKind.wrap .i64 (nn ((e-a:Nat):Int) 4)=(((e-a)/4:Nat):Int):=by
  rw[nm (by omega),d8 (by omega)];omega
 have wm:∀k:Nat,k≤3→IntKind.wrap .i64 (((((e-a)/4:Nat):Int))*(k:Int))=(((e-a)/4*k:Nat):Int):=fun k hk=>by
  rw[Int.natCast_mul,d8];have:(e-a)/4*k≤1000000000*3:=Nat.mul_le_mul (by omega) hk;have:(((e-a)/4*k:Nat):Int)=(((e-a)/4:Nat):Int)*(k:Int):=Int.natCast_mul ..;omega
 have w1:=wm 1 (by omega);have w2:=wm 2 (by omega);have w3:=wm 3 (by omega);simp only[Int.cast_ofNat_Int]at w1 w2 w3;simp only[Bd,wl,wq];have w1':IntKind.wrap .i64 ((((e-a)/4:Nat):Int)*1)=(((e-a)/4*1:Nat):Int):=w1;have w2':IntKind.wrap .i64 ((((e-a)/4:Nat):Int)*2)=(((e-a)/4*2:Nat):Int):=w2;have w3':IntKind.wrap .i64 ((((e-a)/4:Nat):Int)*3)=(((e-a)/4*3:Nat):Int):=w3;rw[w1',w2',w3'];have wi:∀k:Nat,k≤3→IntKind.wrap .i64 ((a:Int)+(((e-a)/4*k:Nat):Int))=((a+(e-a)/4*k:Nat):Int):=fun k hk=>by
  have:(e-a)/4*k≤(e-a)/4*3:=Nat.mul_le_mul_left _ hk;rw[d8 (by omega)];omega
 refine⟨by decide,by decide,by decide,?_⟩
 refine Join.intro (fun t h'=>∃p:Nat,t=(p:Int)∧a≤p∧p<e∧SA dec M s h' d∧Upd No h h'∧∃m,h'[h.size]? =some (.cells #[.int .i64 m] sA (0,0))) (fun R hR=>?_) ?_
 ·rw[wi 1 (by omega),wi 2 (by omega),wi 3 (by omega)]
  refine aA (fun h8=>?_) fun h8=>?_
  ·have h8:8≤e-a:=by omega
   refine Join.intro (fun t h'=>∃p q r:Nat,t=((p:Int),(q:Int),(r:Int))∧(a≤p∧p<e)∧(a≤q∧q<e)∧(a≤r∧r<e)∧SA dec M s h' d∧Upd No h h'∧∃m,h'[h.size]? =some (.cells #[.int .i64 m] sA (0,0))) (fun R2 hR2=>?_) ?_
   ·refine aA (fun h50=>?_) fun h50=>?_
    ·have h50:50≤e-a:=by omega
     refine wB hs0 (by omega) (by omega) hc0 hcb fun h1 p1 m1 e1 hs1 hc1 hu1=>?_
     refine wB hs1 (by omega) (by omega) hc1 hcb fun h2 p2 m2 e2 hs2 hc2 hu2=>?_
     refine wB hs2 (by omega) (by omega) hc2 hcb fun h3 p3 m3 e3 hs3 hc3 hu3=>?_
     exact hR2 _ _ ⟨p1,p2,p3,rfl,by omega,by omega,by omega,hs3,k0.trans ((hu1.tr hu2).tr hu3) fun b hb=>.inr (eI hb.symm),_,hc3⟩
    ·exact hR2 _ _ ⟨_,_,_,rfl,by omega,by omega,by omega,hs0,k0,_,hc0⟩
   ·rintro t h1 ⟨p,q,r,rfl,hp,hq,hr,hs1,hu1,m,hc1⟩
    refine Ht hs1 (by omega) (by omega) (by omega) hc1 hcb fun h2 p2 m2 e2 hs2 hc2 hu2=>?_
    exact hR _ _ ⟨p2,rfl,by omega,by omega,hs2,hu1.trans hu2 fun b hb=>.inr (eI hb.symm),_,hc2⟩
  ·exact hR _ _ ⟨_,rfl,by omega,by omega,hs0,k0,_,hc0⟩
 ·rintro t h1 ⟨p,rfl,hp1,hp2,hs1,hu1,m,hc1⟩
  refine⟨m,by rw[cJ,bh hc1];rfl,CondP.intro (fun _=>hk _ p _ hp1 hp2 hs1 hu1) fun _=>CondP.intro (fun _=>hk _ p _ hp1 hp2 hs1 hu1) fun _=>hk _ p _ hp1 hp2 hs1 hu1⟩
end Go.Proofs
namespace Go.Proofs
open Go Go.Lift Go.Sort
variable {dec:Int→Ch} {M:Nat→Prop} {s:SliceV} {h:ad} {d:Array Int}
theorem SB(x:Int):IntKind.wrap .u64 x=x%18446744073709551616:=by
 simp[IntKind.wrap,IntKind.bits,IntKind.signed]
theorem and_le_right(x:Int){m:Int}(h0:0≤m)(hm:m<18446744073709551616):0≤IntKind.wrap .u64 ((ar (IntKind.bits .u64) x&&&ar (IntKind.bits .u64) m).toNat:Int)∧IntKind.wrap .u64 ((ar (IntKind.bits .u64) x&&&ar (IntKind.bits .u64) m).toNat:Int)≤m:=by
 have h1:(ar (IntKind.bits .u64) x&&&ar (IntKind.bits .u64) m).toNat≤(ar (IntKind.bits .u64) m).toNat:=by
  rw[BitVec.toNat_and];exact Nat.and_le_right
 have h2:((ar (IntKind.bits .u64) m).toNat:Int)=m:=by
  show((ar 64 m).toNat:Int)=m
  rw[BitVec.toNat_ofInt];have:m%((2^64:Nat):Int)=m:=Int.emod_eq_of_lt h0 (by omega);rw[this];omega
 rw[SB];omega
theorem MK{n:Nat}(h1:1≤n)(hn:n≤1000000000){K:Int→ad→Prop}(hk:∀m:Nat,1≤m→m≤2*n→K (m:Int) h):HC PG kR [.int .i64 n] [.c (.int .u64)] K h:=by
 refine vH n ?_;unfold pK bX;rw[show IntKind.wrap .u64 (n:Int)=(n:Int) by rw[SB];omega]
 refine MR (by omega) fun L hL hp=>⟨by omega,?_⟩
 have:=hp h1;have e:IntKind.wrap .u64 (1*2^(min ((L:Int)).toNat (IntKind.bits .u64)))=((2^L:Nat):Int):=by
  rw[SB,show min ((L:Int)).toNat (IntKind.bits .u64)=L by simp[IntKind.bits];omega,Int.one_mul]
  have h2:(2:Int)^L=((2^L:Nat):Int):=by simp
  rw[h2];generalize 2^L=P at this⊢;omega
 rw[e];exact hk _ (Nat.one_le_two_pow) this
theorem JH{c:Nat}{n:Int}{t:TypeId}(hc:h[c]? =some (.cells #[.int .u64 n] t (0,0))) {K:Int→ad→Prop}
  (hk:∀h' m,h'[c]? =some (.cells #[.int .u64 m] t (0,0))→Upd (· =c) h h'→K m h'):HC PG lz [.pointer (some ⟨c,0,none⟩)] [.c (.int .u64)] K h:=by
 refine wV (some ⟨c,0,none⟩) ?_;unfold qk;have set:∀{h:ad} {n:Int} (m:Int),h[c]? =some (.cells #[.int .u64 n] t (0,0))→(hset h ⟨c,0,none⟩ (.int .u64 m))[c]? =some (.cells #[.int .u64 m] t (0,0))∧Upd (· =c) h (hset h ⟨c,0,none⟩ (.int .u64 m))∧Wr h ⟨c,0,none⟩:=fun m hc=>by
  refine⟨?_,Upd.hset _ _ rfl,iI hc (by simp)⟩;rw[vt hc,jg hc];rfl
 have ld:∀{h:ad} {n:Int},h[c]? =some (.cells #[.int .u64 n] t (0,0))→aS h ⟨c,0,none⟩=some (.int .u64 n):=fun hc=>by rw[bh hc];rfl
 refine⟨_,rfl,_,ld hc,_,rfl,_,ld hc,by omega,_,rfl,?_⟩
 obtain⟨s1,k1,w1⟩:=set _ hc;refine⟨w1,_,rfl,_,ld s1,_,rfl,_,ld s1,by omega,_,rfl,?_⟩
 obtain⟨s2,k2,w2⟩:=set _ s1;refine⟨w2,_,rfl,_,ld s2,_,rfl,_,ld s2,by omega,_,rfl,?_⟩
 obtain⟨s3,k3,w3⟩:=set _ s2;exact⟨w3,_,rfl,_,ld s3,hk _ _ s3 ((k1.tr k2).tr k3)⟩
theorem Cx{a e:Nat}(hs:SA dec M s h d)(ha:a≤e)(he:e≤d.size){K:Unit→ad→Prop}(hk:∀h' d',SA dec M s h' d'→PermIn a e d d'→Upd M h h'→K () h'):
  HC PG eM [.slice s.a s.len s.cap,.int .i64 a,.int .i64 e,q9] [] K h:=by
 refine lW s a e q9 ?_;unfold g7 ay cj aD fC bI jJ gC;have hsm:=hs.small;have wl:IntKind.wrap .i64 ((e:Int)-(a:Int))=((e-a:Nat):Int):=by rw[d8 (by omega)];omega
 rw[wl];refine aA (fun h8=>?_) fun h8=>hk h d hs (permIn_refl ..) (Upd.refl _ _)
 have h8:8≤e-a:=by omega
 have k0:=Upd.hnew No h [.int .u64 0] iP;have hc0:=bZ h [.int .u64 0] iP;have hs0:=hs.upd0 k0;have hcb:¬M h.size:=fun hb=>by have:=hs.lt _ hb;omega
 simp only[At,cJ];generalize hnew h [.int .u64 0] iP=h0 at k0 hc0 hs0;refine⟨iI hc0 (by simp),?_⟩;have k1:Upd (· =h.size) h0 (hset h0 ⟨h.size,0,none⟩ (.int .u64 (IntKind.wrap .u64 ((e-a:Nat):Int)))):=Upd.hset _ _ rfl
 have hc1:(hset h0 ⟨h.size,0,none⟩ (.int .u64 (IntKind.wrap .u64 ((e-a:Nat):Int))))[h.size]? =some (.cells #[.int .u64 (IntKind.wrap .u64 ((e-a:Nat):Int))] iP (0,0)):=by
  rw[vt hc0,jg hc0];rfl
 have hs1:=hs0.updC k1 hcb;generalize hset h0 ⟨h.size,0,none⟩ (.int .u64 (IntKind.wrap .u64 ((e-a:Nat):Int)))=h1 at k1 hc1 hs1;refine MK (by omega) (by omega) fun m hm1 hm2=>⟨by decide,?_⟩
 have wq:IntKind.wrap .i64 (IntKind.wrap .i64 (nn ((e-a:Nat):Int) 4)*2)=(((e-a)/4*2:Nat):Int):=by
  rw[nm (by omega),d8 (x:=((e-a:Nat):Int)/4) (by omega),d8 (by omega)];omega
 simp only[Bd];rw[wq];have w0:IntKind.wrap .i64 (IntKind.wrap .i64 ((a:Int)+(((e-a)/4*2:Nat):Int))-1)=((a+(e-a)/4*2-1:Nat):Int):=by
  rw[d8 (x:=(a:Int)+_) (by omega),d8 (by omega)];omega
 have w2:IntKind.wrap .i64 (IntKind.wrap .i64 ((a:Int)+(((e-a)/4*2:Nat):Int))+1)=((a+(e-a)/4*2+1:Nat):Int):=by
  rw[d8 (x:=(a:Int)+_) (by omega),d8 (by omega)];omega
 rw[w0];refine LoopP.ghost (fun(g:Nat×Array Int) (t:Int) h'=>t=(g.1:Int)∧SA dec M s h' g.2∧PermIn a e d g.2∧Upd M h h'∧(∃n,h'[h.size]? =some (.cells #[.int .u64 n] iP (0,0)))∧a+(e-a)/4*2-1≤g.1∧g.1≤a+(e-a)/4*2+2) (fun g=>a+(e-a)/4*2+2-g.1) (a+(e-a)/4*2-1,d)
  ⟨rfl,hs1,permIn_refl ..,k0.wide.trans k1 fun x hx=>.inr (by omega),⟨_,hc1⟩,aq _,by simp only;omega⟩ ?_
 rintro I ⟨i,d1⟩ t h2 ⟨ht,hs2,hp2,hu2,⟨n2,hc2⟩,hi1,hi2⟩ hI;simp only at ht hs2 hp2 hi1 hi2;subst ht;have hz:d1.size=d.size:=hp2.1;refine⟨by decide,?_⟩;rw[w2];refine aA (fun hle=>?_) fun hgt=>hk h2 d1 hs2 hp2 hu2
 have hle:i≤a+(e-a)/4*2+1:=by omega
 refine JH hc2 fun h3 r hc3 hu3=>?_
 have hs3:=hs2.updC hu3 hcb;have wm:IntKind.wrap .u64 ((m:Int)-1)=((m-1:Nat):Int):=by rw[SB];omega
 rw[wm];obtain⟨a0,a1⟩:=and_le_right r (m:=((m-1:Nat):Int)) (by omega) (by omega);generalize IntKind.wrap .u64 ((ar (IntKind.bits .u64) r&&&ar (IntKind.bits .u64) ((m-1:Nat):Int)).toNat:Int)=o at a0 a1;have wo:IntKind.wrap .i64 o=o:=d8 (by omega);refine Join.intro (fun t h'=>h'=h3∧∃q:Nat,t=(q:Int)∧q<e-a) (fun R hR=>?_) ?_
 ·show CondP (decide (IntKind.wrap .i64 o≥((e-a:Nat):Int))) _ _
  rw[wo];refine aA (fun h4=>hR _ _ ⟨rfl,(o-((e-a:Nat):Int)).toNat,?_,by omega⟩) fun h4=>hR _ _ ⟨rfl,o.toNat,by omega,by omega⟩
  show IntKind.wrap .i64 (o-((e-a:Nat):Int))=_
  rw[d8 (by omega)];omega
 ·rintro t h' ⟨rfl,q,rfl,hq⟩
  have wj:IntKind.wrap .i64 ((a:Int)+(q:Int))=((a+q:Nat):Int):=by rw[d8 (by omega)];omega
  refine hs3.swap (i:=i) (j:=a+q) rfl wj (by omega) (by omega) fun h5 hs5 hu5=>?_
  refine hI (i+1,swp d1 i (a+q)) _ _ ⟨by rw[d8 (by omega)];rfl,hs5,permIn_trans _ _ _ _ _ hp2 (swp_permIn d1 a e i (a+q) (by omega) (by omega) (by omega) (by omega) (by omega)),?_,⟨r,hu5.get hc3 hcb⟩,by simp only;omega,by simp only;omega⟩ (by simp only;omega)
  exact(hu2.trans hu3 fun x hx=>.inr (by omega)).tr hu5
end Go.Proofs
namespace Go.Proofs
open Go Go.Lift Go.Sort
variable {dec:Int→Ch} {M:Nat→Prop} {s:SliceV} {h:ad} {d:Array Int}
theorem QL:SWO (kP dec):=⟨fun x=>woG.irr _,fun x y z h1 h2=>by
 unfold kP Tb at*
 exact decide_eq_true (fE (of_decide_eq_true h1) (of_decide_eq_true h2)),fun x y z h1 h2=>woG.ntr _ _ _ h1 h2⟩
theorem Us:∀(n:Nat) {a e:Nat} {lim:Int} {h:ad} {d:Array Int} {K:Unit→ad→Prop},e-a=n→SA dec M s h d→a≤e→e≤d.size→Go.Sort.Below (kP dec) a e d→
  (∀h' d',SA dec M s h' d'→PermIn a e d d'→SortedIn (kP dec) a e d'→Upd M h h'→K () h')→HC PG dt [.slice s.a s.len s.cap,.int .i64 a,.int .i64 e,.int .i64 lim,q9] [] K h:=by
 intro n;induction n using Nat.strongRecOn with
 |_ n ih=>
 intro a e lim h d K hn hs ha he hB hk;refine jm s a e lim q9 ?_;unfold fY ay cj aD bX bI ja ma xI;have hsm:=hs.small;refine LoopP.ghost (fun(g:Nat×Nat×Array Int) (t:Int×Int×Int×Bool×Bool) h'=>t.1=(g.1:Int)∧t.2.1=(g.2.1:Int)∧SA dec M s h' g.2.2∧g.2.2.size=d.size∧(a≤g.1∧g.1≤g.2.1∧g.2.1≤e)∧Go.Sort.Below (kP dec) g.1 g.2.1 g.2.2∧
   (∀R,PermIn g.1 g.2.1 g.2.2 R→SortedIn (kP dec) g.1 g.2.1 R→PermIn a e d R∧SortedIn (kP dec) a e R)∧Upd M h h') (fun g=>g.2.1-g.1) (a,e,d)
  ⟨rfl,rfl,hs,rfl,⟨aq _,ha,aq _⟩,hB,fun R h1 h2=>⟨h1,h2⟩,Upd.refl _ _⟩ ?_
 rintro I ⟨a1,e1,d1⟩ ⟨t1,t2,l1,wb,wp⟩ h1 ⟨ht1,ht2,hs1,hz1,⟨haa,hae,hee⟩,hB1,hfin,hu1⟩ hI;simp only at ht1 ht2 hs1 hz1 haa hae hee hB1 hfin;subst ht1 ht2;have he1:e1≤d1.size:=by omega
 have wl:IntKind.wrap .i64 ((e1:Int)-(a1:Int))=((e1-a1:Nat):Int):=by rw[d8 (by omega)];omega
 simp only;rw[wl];refine aA (fun hle=>?_) fun hgt=>?_
 ·refine M6 hs1 hae he1 fun h2 hs2 hu2=>?_
  obtain⟨p1,p2⟩:=insertionSort_holds QL d1 a1 e1 hae he1;obtain⟨q1,q2⟩:=hfin _ p1 p2;exact hk _ _ hs2 q1 q2 (hu1.tr hu2)
 have hgt:12<e1-a1:=by omega
 refine CondP.intro (fun _=>?_) fun _=>?_
 ·refine KZ hs1 hae he1 fun h2 hs2 hu2=>?_
  obtain⟨p1,p2⟩:=heapSort_holds QL d1 a1 e1 hae he1;obtain⟨q1,q2⟩:=hfin _ p1 p2;exact hk _ _ hs2 q1 q2 (hu1.tr hu2)
 refine Join.intro (fun _ h'=>∃d2,SA dec M s h' d2∧PermIn a1 e1 d1 d2∧Upd M h h') (fun R hR=>?_) ?_
 ·refine CondP.intro (fun _=>?_) fun _=>hR _ _ ⟨d1,hs1,permIn_refl ..,hu1⟩
  exact Cx hs1 hae he1 fun h2 d2 hs2 hp2 hu2=>hR _ _ ⟨d2,hs2,hp2,hu1.tr hu2⟩
 rintro lim2 h2 ⟨d2,hs2,hp2,hu2⟩;have hz2:d2.size=d.size:=by rw[hp2.1,hz1]
 refine FJ hs2 (by omega) (by omega) fun h3 p hn1 hpa hpe hs3 hu3=>?_
 refine Join.intro (fun t h'=>∃(q:Nat) (d3:Array Int),t.1=(q:Int)∧a1≤q∧q<e1∧SA dec M s h' d3∧PermIn a1 e1 d1 d3∧Upd M h h') (fun R hR=>?_) ?_
 ·refine CondP.intro (fun _=>?_) fun _=>hR _ _ ⟨p,d2,rfl,hpa,hpe,hs3,hp2,hu2.tr hu3.wide⟩
  refine Ka hs3 (by omega) (by omega) fun h4 hs4 hu4=>hR _ _ ⟨e1-1-(p-a1),_,?_,by omega,by omega,hs4,permIn_trans _ _ _ _ _ hp2 (reverseRange_holds d2 a1 e1 hae (by omega)),(hu2.tr hu3.wide).tr hu4⟩
  show IntKind.wrap .i64 (IntKind.wrap .i64 ((e1:Int)-1)-IntKind.wrap .i64 ((p:Int)-(a1:Int)))=_
  rw[d8 (x:=(e1:Int)-1) (by omega),d8 (x:=(p:Int)-(a1:Int)) (by omega),d8 (by omega)];omega
 rintro⟨q1,hint⟩ h4 ⟨q,d3,hq,hqa,hqe,hs4,hp4,hu4⟩;simp only at hq;subst hq;have hz3:d3.size=d.size:=by rw[hp4.1,hz1]
 have hB3:Go.Sort.Below (kP dec) a1 e1 d3:=hB1.perm he1 hp4;refine Join.intro (fun _ h'=>∃d4,SA dec M s h' d4∧PermIn a1 e1 d1 d4∧Upd M h h') (fun R hR=>?_) ?_
 ·refine Join.intro (fun _ h'=>h'=h4) (fun R2 hR2=>CondP.intro (fun _=>CondP.intro (fun _=>hR2 _ _ rfl) fun _=>hR2 _ _ rfl) fun _=>hR2 _ _ rfl) ?_
  rintro _ h5 rfl;refine CondP.intro (fun _=>?_) fun _=>hR _ _ ⟨d3,hs4,hp4,hu4⟩
  refine Gr hs4 (by omega) (by omega) fun h6 hs6 hu6=>?_
  obtain⟨p1,p2⟩:=partialInsertionSort_holds QL d3 a1 e1 (by omega) (by omega) hB3;refine CondP.intro (fun hb=>?_) fun _=>hR _ _ ⟨_,hs6,permIn_trans _ _ _ _ _ hp4 p1,hu4.tr hu6⟩
  obtain⟨r1,r2⟩:=hfin _ (permIn_trans _ _ _ _ _ hp4 p1) (p2 hb);exact hk _ _ hs6 r1 r2 (hu4.tr hu6)
 rintro _ h5 ⟨d4,hs5,hp5,hu5⟩;have hz4:d4.size=d.size:=by rw[hp5.1,hz1]
 have hB4:Go.Sort.Below (kP dec) a1 e1 d4:=hB1.perm he1 hp5;refine Join.intro (fun t h'=>SA dec M s h' d4∧Upd No h5 h'∧(t=true→0<a1∧(kP dec) d4[a1-1]! d4[q]! =false)) (fun R hR=>?_) ?_
 ·refine aA (fun h6=>?_) fun _=>hR _ _ ⟨hs5,Upd.refl _ _,fun e=>by cases e⟩
  refine hs5.less (i:=a1-1) (j:=q) (by rw[d8 (by omega)];omega) rfl (by omega) (by omega) fun hL eL hsL kL heL=>hR _ _ ⟨hsL,kL,fun e=>⟨by omega,by rw[heL]at e;simpa using e⟩⟩
 rintro t h6 ⟨hs6,k6,ht⟩;have hu6:=hu5.tr k6.wide;refine CondP.intro (fun ht1=>?_) fun _=>?_
 ·obtain⟨h7,h8⟩:=ht ht1
  refine Pu hs6 hqa hqe (by omega) fun h9 hs9 hu9=>?_
  cases hx:partitionEqual (kP dec) d4 a1 e1 q with
  |mk mid d5=>
   rw[hx]at hs9;obtain⟨m1,m2,m3,m4,m5⟩:=round_eq QL (partitionEqual_holds _) h7 hqa hqe (by omega) hB4 h8 hx;refine hI (mid,e1,d5) _ _ ⟨rfl,rfl,hs9,by simp only;omega,⟨by simp only;omega,m2,hee⟩,m4,fun R r1 r2=>?_,hu6.tr hu9⟩ (by simp only;omega)
   obtain⟨x1,x2⟩:=m5 R r1 r2;exact hfin R (permIn_trans _ _ _ _ _ hp5 x1) x2
 ·refine SZ hs6 hqa hqe (by omega) fun h9 hs9 hu9=>?_
  cases hx:partition (kP dec) d4 a1 e1 q with
  |mk mid r=>
   obtain⟨ap,d5⟩:=r;rw[hx]at hs9;obtain⟨m1,m2,m3,m4,m5,m6,m7⟩:=round_part QL (partition_holds _) hqa hqe (by omega) hB4 hx;simp only at hs9⊢;refine⟨by decide,?_⟩;have w1:IntKind.wrap .i64 ((mid:Int)-(a1:Int))=((mid-a1:Nat):Int):=by rw[d8 (by omega)];omega
   have w2:IntKind.wrap .i64 ((e1:Int)-(mid:Int))=((e1-mid:Nat):Int):=by rw[d8 (by omega)];omega
   have w3:IntKind.wrap .i64 ((mid:Int)+1)=((mid+1:Nat):Int):=by rw[d8 (by omega)];omega
   rw[w1,w2,w3];refine aA (fun _=>?_) fun _=>?_
   ·refine ih (mid-a1) (by omega) rfl hs9 m1 (by omega) m4 fun h10 d6 hs10 hp10 hq10 hu10=>?_
    obtain⟨y1,y2⟩:=m6 d6 hp10 hq10;have hz6:=hp10.1;refine hI (mid+1,e1,d6) _ _ ⟨rfl,rfl,hs10,by simp only;omega,⟨by simp only;omega,by simp only;omega,hee⟩,y1,fun R r1 r2=>?_,(hu6.tr hu9).tr hu10⟩ (by simp only;omega)
    obtain⟨x1,x2⟩:=y2 R r1 r2;exact hfin R (permIn_trans _ _ _ _ _ hp5 x1) x2
   ·refine ih (e1-(mid+1)) (by omega) rfl hs9 (by omega) (by omega) m5 fun h10 d6 hs10 hp10 hq10 hu10=>?_
    obtain⟨y1,y2⟩:=m7 d6 hp10 hq10;have hz6:=hp10.1;refine hI (a1,mid,d6) _ _ ⟨rfl,rfl,hs10,by simp only;omega,⟨haa,m1,by simp only;omega⟩,y1,fun R r1 r2=>?_,(hu6.tr hu9).tr hu10⟩ (by simp only;omega)
    obtain⟨x1,x2⟩:=y2 R r1 r2;exact hfin R (permIn_trans _ _ _ _ _ hp5 x1) x2
theorem E7{d d':Array Int}(hp:PermIn 0 d.size d d'):d'.toList.Perm d.toList:=by
 have:=hp.2.2;have e1:d'.extract 0 d.size=d':=by rw[←hp.1];simp
 rw[e1]at this;simpa using this
theorem QO{M:Nat→Prop}{h:ad}{s:SliceV}{L X:List Ch}(ho:OwnS BP 5 bT M h s L)(hp:L.Perm X)(hX:CD X)(hn:L.length≤100000000)(hM:∀b,M b→b<h.size){K:Unit→ad→Prop}(hk:∀h',OwnS BP 5 bT M h' s X→Upd M h h'→K () h'):
  HC PG cD [.slice s.a s.len s.cap,.func (.func ng) #[] #[]] [] K h:=by
 refine gz s _ ?_;unfold eB bX;have hlen:=ho.len;rw[Go.IntWalk.u64_in _ (by omega)];refine MR (by omega) fun L0 _ _=>?_
 let dec:Int→Ch:=fun i=>L[i.toNat]?.getD (⟨#[]⟩,⟨#[]⟩,⟨#[]⟩,false,false)
 let d:Array Int:=((gf L.length).map fun i:Nat=>(i:Int)).toArray
 have hd:d.toList.map dec=L:=by
  apply List.ext_getElem?;intro i;rw[List.getElem?_map];show(((gf L.length).map fun i:Nat=>(i:Int))[i]?).map dec=_
  rw[List.getElem?_map];by_cases hi:i<L.length
  ·rw[List.getElem?_range hi,ai hi]
   show some (L[((i:Int)).toNat]?.getD _)=_
   rw[Int.toNat_natCast,ai hi];rfl
  ·rw[mp (by rw[List.length_range];omega),mp (by omega)];rfl
 have hz:d.size=L.length:=by simp[d]
 have hs:SA dec M s h d:=⟨by rw[hd];exact ho,by omega,hM⟩
 have e1:((s.len:Nat):Int)=((d.size:Nat):Int):=by rw[hz,hlen]
 rw[e1];refine Us (a:=0) (e:=d.size) _ rfl hs (bw _) (aq _) (.inl rfl) fun h' d' hs' hp' hq hu=>?_
 have hpm:=E7 hp';have hL:(d'.toList.map dec).Perm L:=by
  have:=hpm.map dec;rw[hd]at this;exact this
 have hS:Srt Tb (d'.toList.map dec):=by
  unfold Srt;rw[List.pairwise_map,cn];intro i j hi hj hij;have hz2:=hp'.1;have:=hq i j (bw _) hij (by rw[←hz2];simpa using hj);rw[getElem!_pos d' j (by simpa using hj),getElem!_pos d' i (by simpa using hi)]at this;have this:Tb (dec d'[j]) (dec d'[i])=false:=this;simpa only[Array.getElem_toList]using this
 have:=JT (hL.trans hp) hS hX;subst this;exact hk h' hs'.own hu
end Go.Proofs
namespace Go.Proofs
open Go Go.Lift
theorem Ni{W W':Nat→Prop}{x x':Hs}{h:ad}{kind kind':Int}{t u:Tr}{l l':List Pr}(i:TreeIs W h kind x t l)(i':TreeIs W' h kind' x' u l')(hr:bE l)(hf:Fit l)(hn:l.length≤60000)(hr':bE l')(hf':Fit l')(hn':l'.length≤60000){K:SliceV×Int→ad→Prop}
  (h0:nX t u=false→∀h',Upd No h h'→K (⟨none,0,0⟩,11) h')(hk:nX t u=true→∀h' s',OwnS BP 5 bT (fun y=>h.size≤y) h' s' (iM l l')→Upd No h h'→K (s',0) h'):HC PG sR [zo t,zo u] [.c .slice,.c (.int .i64)] K h:=
 FE i i' hr hf hn hr' hf' hn' (fun _ {_ _ _ _ _} ho hM hp hk=>QO ho hp (ws hr hr') (by have:=hp.length_eq;have:=um hr hr';omega) hM hk) h0 hk
end Go.Proofs
namespace Go.Proofs
open Go Go.Lift
theorem Few.mono{n m:Nat}{L:List Pr}(f:Few n L)(h:n≤m):Few m L:=⟨f.up,bc f.len h,f.fit⟩
end Go.Proofs
namespace Go.Proofs
open Go Go.Lift
theorem Ke{W:Nat→Prop}{h:ad}{b:Nat}{l:List Pr}(t:RadAt W h b l)(hW:∀y,W y→y<h.size)(hr:bE l)(k:ByteArray){K:ByteArray×Bool→ad→Prop}
  (hk:∀h',Upd No h h'→K ((look l k).getD ⟨#[]⟩,(look l k).isSome) h'):HC PG xT [.pointer (some ⟨b,0,none⟩),.string k] [.c .str,.c .bool] K h:=by
 refine Lu (some ⟨b,0,none⟩) k ?_;unfold DJ ay cj aD cd jH lx ED ja;refine B6 (.inr ⟨b,rfl,t⟩) hW fun h2 b2 t2 hu2 _=>?_
 obtain⟨w,F,r1,r2,r3⟩:=t2.ex;have hin:∀v,sf w F k.data.toList v↔look l k=some v:=fun v=>by
  rw[←jV,r3];constructor
  ·rintro⟨p,hp,e1,rfl⟩
   rw[←tF.1 e1];exact qS hr hp
  ·intro hp;exact⟨_,td hp,rfl,rfl⟩
 refine LoopP.ghost (fun(g:ByteArray×Nat×ByteArray×Option ByteArray×Fo) (t:ByteArray×Option Addr) h'=>t=(g.1,some ⟨g.2.1,0,none⟩)∧RxN W h' g.2.1 g.2.2.1 g.2.2.2.1 g.2.2.2.2∧fS g.2.2.2.2∧(∀v,sf g.2.2.2.1 g.2.2.2.2 g.1.data.toList v↔look l k=some v)∧Upd No h h') (fun g=>g.1.size) (k,b2,⟨#[]⟩,w,F) ⟨rfl,r1,r2,hin,hu2⟩ ?_
 clear hin r1 r2 r3 t2;rintro I ⟨kk,c,sl,w,F⟩ t h5 ⟨rfl,r,hc,hin,hu⟩ hI;simp only at r hc hin;simp only[gE];by_cases hk0:kk=⟨#[]⟩
 ·subst hk0
  refine aj.2 (JY r ?_);have e:look l k=w:=Option.ext fun v=>by
   rw[←hin v];constructor
   ·rintro(⟨_,h⟩|h)
    ·exact h
    ·exact absurd rfl (pi hc h)
   ·intro h;exact .inl ⟨rfl,h⟩
  rw[e]at hk;exact hk _ hu
 ·rw[decide_eq_false hk0]
  refine av.2 ?_;have hkne:kk.data.toList≠[]:=fun e=>hk0 (by cases kk;exact congrArg lQ (Array.toList_inj.1 e))
  obtain⟨c0,hc0,hc0e⟩:=IV hkne;refine⟨c0,Int.le_refl _,hc0,?_⟩;have hr0:=r;obtain⟨val,s,ow,ks,hb,_,hs,hcap,hF⟩:=r;have hL:=lr.1 hF;have hcan:=ef.1 hc;have none_of:(∀v,¬qG F kk.data.toList v)→K ((⟨#[]⟩:ByteArray),false) h5:=fun hno=>by
   have e:look l k=none:=by
    cases e:look l k with
    |none=>rfl
    |some v=>
     rcases(hin v).2 e with⟨h,_⟩|h
     ·exact absurd h hkne
     ·exact absurd h (hno v)
   rw[e]at hk;exact hk _ hu
  refine B8 hr0 hc (c:=c0.toNat) (UInt8.toNat_lt _) fun i ok hil hlo hhi hok=>?_
  rw[hc0e]at hlo hhi hok;cases ok with
  |false=>
   refine av.2 (none_of fun v hin=>?_)
   obtain⟨n',hn',e,_⟩:=qU hc hin;obtain⟨j,hj,rfl⟩:=List.getElem_of_mem hn';rcases ct j i with hl|hl
   ·have:=hlo j hj hl;omega
   ·have h1:=hhi j hj hl
    have h2:=hhi i (by omega) (aq _);rcases ct i j with hl2|hl2
    ·have h3:=cn.1 hcan.1 i j (by omega) hj hl2
     omega
    ·have:i=j:=by omega
     subst this;have:=hok.2 ⟨hj,e⟩;cases this
  |true=>
   obtain⟨hi,hie⟩:=hok.1 rfl;refine aj.2 ⟨_,rfl,s,eo (i:=3) hb,?_⟩;obtain⟨kb,ksl,hki,hkl,hkn⟩:=hL.at hi;have hmem:F.toL[i]∈F.toL:=bN hi;have hcm:=hcan.2 _ hmem;obtain⟨a,ha,_,hvv⟩:=hs.at0 hki;have hslen:=hs.len;rw[hL.1]at hslen;have hin_m:∀v,qG F kk.data.toList v↔vf F.toL[i] kk.data.toList v:=fun v=>by
    constructor
    ·intro hin
     obtain⟨n',hn',e,hN⟩:=qU hc hin;rw[←wR hc hn' hmem (by omega)];exact hN
    ·intro hin;exact fK.2 ⟨_,hmem,hin⟩
   refine⟨⟨by simp only;omega,by simp only;omega⟩,a,ha,some ⟨kb,0,none⟩,hvv,_,rfl,?_⟩
   obtain⟨kval,kss,kow,kks,hkb,_⟩:=id hkn;generalize F.toL[i]=m at hkl hkn hcm hin_m hie;obtain⟨lab,wk,Fk⟩:=m;simp only at hkl hkn hcm hie hkb;refine⟨ksl,eo (i:=0) hkb,RF (fun rest hrest=>?_) fun hno=>?_⟩
   ·rw[hkl]at hrest
    have hlne:lab.length≠0:=fun e=>hcm.1 (aw.1 e)
    have hrl:rest.size<kk.size:=by
     rw[←kO rest,←kO kk,hrest,List.length_append];omega
    refine aj.2 (hI (rest,kb,ksl,wk,Fk) _ _ ⟨rfl,hkn,hcm.2.2,fun v=>?_,hu⟩ hrl)
    rw[←hin v];constructor
    ·intro h;exact .inr ((hin_m v).2 ⟨_,hrest,h⟩)
    ·rintro(⟨h,_⟩|h)
     ·exact absurd h hkne
     ·obtain⟨r',e,hr'⟩:=(hin_m v).1 h
      simp only at e;rw[hrest]at e;rw[List.append_cancel_left e];exact hr'
   ·rw[hkl]at hno
    refine av.2 (none_of fun v h=>?_)
    obtain⟨r',e,_⟩:=(hin_m v).1 h;exact hno r' e
theorem SK{W:Nat→Prop}{x:Hs}{h:ad}{kind:Int}{t:Tr}{l:List Pr}(i:TreeIs W h kind x t l)(hW:∀y,W y→y<h.size)(hr:bE l)(hn:l.length≤1000000)(k:ByteArray){K:Sd→ad→Prop}(hk:∀h',Upd No h h'→K ((look l k).getD ⟨#[]⟩,(look l k).isSome) h'):HC PG r8 [zo t,.string k] [.c .str,.c .bool] K h:=by
 refine D7 t k ?_;unfold xg aN aH ax zm oa xu lx;rcases i with⟨_,b,rfl,t⟩|⟨_,b,rfl,t⟩
 ·refine aM fun h1 b1 k1=>⟨_,vc b1 0,aj.2 ⟨_,sy b1 1 0,_,sy b1 1 1,_,sy b1 1 2,_,vc b1 4,?_⟩⟩
  exact Ll (TrieAt.upd0 k1 t) (fun y hy=>aE (hW y hy) k1.size) hr hn k fun h2 k2=>hk h2 (k1.tr k2)
 ·refine aM fun h1 b1 k1=>⟨_,vc b1 0,av.2 ⟨_,vc b1 5,?_⟩⟩
  exact Ke (t.upd0 k1) (fun y hy=>aE (hW y hy) k1.size) hr k fun h2 k2=>hk h2 (k1.tr k2)
end Go.Proofs
namespace Go.Proofs
open Go Go.Lift
theorem dE{W:Nat→Prop}{x:Hs}{h:ad}{kind:Int}{t:Tr}{l:List Pr}(i:TreeIs W h kind x t l)(hW:∀y,W y→y<h.size)(hr:bE l)(hn:l.length≤1000000)(k:ByteArray){K:Sd→ad→Prop}(hk:∀h',Upd No h h'→K (jI (look l k)) h'):HC PG bV [zo t,.string k] [.agg [.str,.bool]] K h:=by
 refine Ly t k ?_;unfold DP aN ae ax au cp jR oa uT pO lx ft;refine aM fun h1 b1 k1=>aM fun h2 b2 k2=>?_
 have c1:=k2.get0 b1;have k12:=k1.tr k2;refine⟨_,vc c1 0,_,vc c1 1,_,vc c1 2,_,vc c1 3,_,vc c1 4,_,vc c1 5,?_⟩;refine SK (i.upd0 k12) (fun y hy=>aE (hW y hy) k12.size) hr hn k fun h3 k3=>?_
 refine be (c:= [.string (⟨#[]⟩:ByteArray),.bool false]) (vs:=qD (jI (look l k))) (k3.get0 b2) rfl fun h4 b4 hu4=>?_
 exact⟨_,vc b4 0,_,vc b4 1,hk h4 ((k12.tr k3).own hu4 k1.size)⟩
theorem S9{W:Nat→Prop}{x:Hs}{h:ad}{kind:Int}{t:Tr}{l:List Pr}(i:TreeIs W h kind x t l)(hW:∀y,W y→y<h.size)(hr:bE l)(hf:Fit l)(hn:l.length≤1000000)(k:ByteArray)(o:Option ByteArray)(hk1:k.size≤256)(hv1:(o.getD ⟨#[]⟩).size≤4096){K:Tr→ad→Prop}
  (hk:∀h' t',TreeIs W h' kind x t' (Gl l k o)→Upd No h h'→K t' h'):HC PG uj [zo t,.string k,.agg #[.string (jI o).1,.bool (jI o).2]] [.agg [.int .i64,.int .u64,.int .u64,.int .u64,.ptr,.ptr]] K h:=by
 refine DE t k (jI o) ?_;unfold yi aN ae ax au cp jR rB oa pO tY tf ft qF;refine aM fun h1 b1 k1=>aM fun h2 b2 k2=>aM fun h3 b3 k3=>?_
 have z1:=aO b1;have z2:=aO b2;have z3:=aO b3;have s1:h.size≤h1.size:=k1.size;have s2:h1.size≤h2.size:=k2.size;have s3:=k3.size;have k03:=(k1.tr k2).tr k3;have c1:=k3.get0 (k2.get0 b1);have c2:=k3.get0 b2;have hP0:Pro W h h3 h.size:=.inr (by omega);have hP2:Pro W h h3 h2.size:=.inr (by omega);refine Join.intro (fun _ h'=>∃t',TreeIs (Pro W h h3) h' kind x t' (Gl l k o)∧h'[h.size]? =some (.cells (fz t').toArray aL (0,0))∧h'[h2.size]? =some (.cells (fz sH).toArray aL (0,0))∧Upd (· =h.size) h3 h') (fun R hR=>?_) ?_
 ·have fin:∀{h4:ad} {t':Tr},Upd No h3 h4→TreeIs (Pro W h h3) h4 kind x t' (Gl l k o)→qE h4 (some (ag h)) 0 (fz t')∧At (fk h4 (ag h) 0 (fz t')) (fun h5=>R () h5):=fun{h4 t'} k4 i4=>
   be (c:=fz t) (vs:=fz t') (k4.get0 c1) rfl fun h5 b5 hu5=>hR _ _ ⟨t',i4.updM hu5 fun y hy=>.inl (by have hy:y=h.size:=hy;rw[hy];exact hP0),b5,hu5.oth (k4.get0 b3) (by omega),k4.wide.tr hu5⟩
  cases o with
  |some v=>
   refine⟨true,vc c2 1,av.2 ⟨_,vc c1 0,_,vc c1 1,_,vc c1 2,_,vc c1 3,_,vc c1 4,_,vc c1 5,v,vc c2 0,?_⟩⟩;exact EO (i.pro k03) (Pro.lt hW k03) hr hn (k,v) hk1 hv1 fun h4 t' i4 _ k4=>fin k4 i4
  |none=>
   refine⟨false,vc c2 1,aj.2 ⟨_,vc c1 0,_,vc c1 1,_,vc c1 2,_,vc c1 3,_,vc c1 4,_,vc c1 5,?_⟩⟩;exact Da (i.pro k03) (Pro.lt hW k03) hr hf hn k hk1 fun h4 t' i4 _ k4=>fin k4 i4
 ·rintro _ h6 ⟨t',i6,b6,r6,hu6⟩
  refine⟨_,vc b6 0,_,vc b6 1,_,vc b6 2,_,vc b6 3,_,vc b6 4,_,vc b6 5,?_⟩;refine be (c:=fz sH) (vs:=fz t') r6 rfl fun h7 b7 hu7=>?_
  refine⟨_,vc b7 0,_,vc b7 1,_,vc b7 2,_,vc b7 3,_,vc b7 4,_,vc b7 5,hk h7 t' ((i6.updM hu7 fun y hy=>.inl (by have hy:y=h2.size:=hy;rw[hy];exact hP2)).less Pro.sub) ?_⟩
  exact(k03.own hu6 (aq _)).own hu7 (by omega)
def O0(k:ByteArray)(o:Option ByteArray):Prop:=∀{W:Nat→Prop} {x:Hs} {h:ad} {kind:Int} {t:Tr} {l:List Pr},TreeIs W h kind x t l→(∀y,W y→y<h.size)→bE l→Fit l→l.length≤1000000→k.size≤256→(o.getD ⟨#[]⟩).size≤4096→∀{K:Tr→ad→Prop},
 (∀h' t',TreeIs W h' kind x t' (Gl l k o)→Upd No h h'→K t' h')→HC PG uj [zo t,.string k,.agg #[.string (jI o).1,.bool (jI o).2]] [.agg [.int .i64,.int .u64,.int .u64,.int .u64,.ptr,.ptr]] K h
theorem U7(k:ByteArray)(o:Option ByteArray):O0 k o:=fun i hW hr hf hn h1 h2 _ hk=>S9 i hW hr hf hn k o h1 h2 hk
theorem Ug(k v:ByteArray):O0 k (some v):=by
 intro W x h kind t l i hW hr hf hn hk1 hv1 K hk;refine DE t k (jI (some v)) ?_;unfold yi aN ae ax au cp jR rB oa pO tY tf ft qF;refine aM fun h1 b1 k1=>aM fun h2 b2 k2=>aM fun h3 b3 k3=>?_
 have z1:=aO b1;have z2:=aO b2;have z3:=aO b3;have s1:h.size≤h1.size:=k1.size;have s2:h1.size≤h2.size:=k2.size;have s3:=k3.size;have k03:=(k1.tr k2).tr k3;have c1:=k3.get0 (k2.get0 b1);have c2:=k3.get0 b2;have hP0:Pro W h h3 h.size:=.inr (by omega);have hP2:Pro W h h3 h2.size:=.inr (by omega);refine Join.plain ⟨true,vc c2 1,av.2 ⟨_,vc c1 0,_,vc c1 1,_,vc c1 2,_,vc c1 3,_,vc c1 4,_,vc c1 5,v,vc c2 0,?_⟩⟩
 refine EO (i.pro k03) (Pro.lt hW k03) hr hn (k,v) hk1 hv1 fun h4 t' i4 _ k4=>?_
 refine be (c:=fz t) (vs:=fz t') (k4.get0 c1) rfl fun h6 b6 u6=>?_
 have i6:=i4.updM u6 fun y hy=>.inl (by have hy:y=h.size:=hy;rw[hy];exact hP0)
 have r6:=u6.oth (k4.get0 b3) (by omega);refine⟨_,vc b6 0,_,vc b6 1,_,vc b6 2,_,vc b6 3,_,vc b6 4,_,vc b6 5,?_⟩;refine be (c:=fz sH) (vs:=fz t') r6 rfl fun h7 b7 hu7=>?_
 have s4:=k4.size;refine⟨_,vc b7 0,_,vc b7 1,_,vc b7 2,_,vc b7 3,_,vc b7 4,_,vc b7 5,hk h7 t' ((i6.updM hu7 fun y hy=>.inl (by have hy:y=h2.size:=hy;rw[hy];exact hP2)).less Pro.sub) ?_⟩
 exact((k03.tr k4).own u6 (aq _)).own hu7 (by omega)
def UM(B T:List Pr):Prop:=∀{W W':Nat→Prop} {x x':Hs} {h:ad} {kind kind':Int} {t u:Tr},TreeIs W h kind x t B→TreeIs W' h kind' x' u T→∀{K:SliceV×Int→ad→Prop},(nX t u=false→∀h',Upd No h h'→K (⟨none,0,0⟩,11) h')→(nX t u=true→∀h' s',OwnS BP 5 bT (fun y=>h.size≤y) h' s' (iM B T)→Upd No h h'→K (s',0) h')→HC PG sR [zo t,zo u] [.c .slice,.c (.int .i64)] K h
theorem V5{n m:Nat}{B T:List Pr}(fB:Few n B)(fT:Few m T)(hn:n≤1000)(hm:m≤1000):UM B T:=fun i i' _ h0 hk=>Ni i i' fB.up fB.fits (by have:=fB.len;omega) fT.up fT.fits (by have:=fT.len;omega) h0 hk
theorem UD{n m:Nat}{B T:List Pr}(fB:Few n B)(fT:Few m T)(hn:n≤1000)(hm:m≤1000)(h12:(iM B T).length≤12):UM B T:=fun i i' _ h0 hk=>PM i i' fB.up fB.fits (by have:=fB.len;omega) fT.up fT.fits (by have:=fT.len;omega) (fun _=>h12) h0 hk
theorem ML{p:Int}(h0:0≤p)(h1:p≤3):Ox p≠⟨#[]⟩:=by
 unfold Ox;have hp:p=0∨p=1∨p=2∨p=3:=by omega
 rcases hp with rfl|rfl|rfl|rfl<;>decide
abbrev JF(c:Cf):List Value:= [.string c.1,.string c.2.1.1,.bool c.2.1.2,.string c.2.2.1.1,.bool c.2.2.1.2,.string c.2.2.2.1,.bool c.2.2.2.2]
abbrev VK:Cf:=(⟨#[]⟩,(⟨#[]⟩,false),(⟨#[]⟩,false),(⟨#[]⟩,false))
theorem RN(c:Cf):(JF c).length=7∧0<7:=⟨rfl,by omega⟩
theorem P3{t:TypeId}{M:Nat→Prop}{h:ad}{so:SliceV}{out:List Cf}{c:Cf}{K:SliceV→ad→Prop}(ho:OwnS JF 7 t M h so out)(hM:∀b,h.size≤b→M b)(hn:out.length+1≤100000000)
  (hk:∀s' h',OwnS JF 7 t M h' s' (out++ [c])→Upd M h h'→K s' h'):
  At (hnew h (JF c) t) fun h1=>∃xs,SRow h1 (some (ag h)) (1*7) xs∧AppP (some (JF VK)) 7 88 t so.a so.len so.cap 1 xs h1 K:=by
 refine aM fun h1 b1 k1=>?_
 have z1:=aO b1;have o1:OwnS JF 7 t (fun _=>True) h1 ⟨some (ag h),1,1⟩ [c]:=⟨rfl,RN,aq _,.inr ⟨h.size,[],rfl,trivial,b1,rfl⟩⟩
 refine⟨_,(o1.sl (W:=No) fun _ _ _ h=>h).srow,?_⟩
 refine AppP.own (ys:= [c]) (ho.upd k1 fun _ _ h=>h) rfl rfl rfl rfl (by omega) (by simp only[List.length_singleton];omega) (hM _ k1.size) fun s' h' ho' hu=>?_
 exact hk s' h' ho' (k1.wide.tr hu)
set_option maxHeartbeats 1000000 in
theorem Dr{W:Nat→Prop}{x:Hs}{h:ad}{kind p:Int}{tb to tt:Tr}{B O T:List Pr}{nb no nt:Nat}(ib:TreeIs W h kind x tb B)(io:TreeIs W h kind x to O)(it:TreeIs W h kind x tt T)(hW:∀y,W y→y<h.size)(fB:Few nb B)(fO:Few no O)(fT:Few nt T)(lb:nb≤1000)(lo:no≤1000)(lt:nt≤1000)
  (hp0:0≤p)(hp1:p≤3)(hdf:UM B T)(hset:∀c∈iM B T,O0 c.1 (tk B O T p c.1).1){K:Tr×SliceV×Int→ad→Prop}
  (hk0:p=0→tC B O T p≠[]→∀h' s',OwnS JF 7 dK (fun y=>h.size≤y) h' s' ((tC B O T p).map (Qm B O T))→Upd No h h'→K (to,s',8) h')
  (hk:(p=0→tC B O T p= [])→∀h' t' s',TreeIs W h' kind x t' (pY B O T p)→OwnS JF 7 dK (fun y=>h.size≤y) h' s' ((tC B O T p).map (Qm B O T))→Upd No h h'→K (t',s',0) h'):
  HC PG qY [zo tb,zo to,zo tt,.int .i64 p] [.agg [.int .i64,.int .u64,.int .u64,.int .u64,.ptr,.ptr],.c .slice,.c (.int .i64)] K h:=by
 refine NK tb to tt p ?_;unfold Gb cj aN ae ax aD au cp nv jR rB oa uT pO tY kV Tj bI ft O2 jJ UZ Sz Su Ti AN;refine aM fun h1 b1 k1=>aM fun h2 b2 k2=>aM fun h3 b3 k3=>aM fun h4 b4 k4=>?_
 have z1:=aO b1;have z2:=aO b2;have z3:=aO b3;have z4:=aO b4;have s1:h.size≤h1.size:=k1.size;have s2:h1.size≤h2.size:=k2.size;have s3:h2.size≤h3.size:=k3.size;have s4:=k4.size;have k04:=((k1.tr k2).tr k3).tr k4;have c0:=k4.get0 (k3.get0 (k2.get0 b1));have c1:=k4.get0 (k3.get0 b2);have c2:=k4.get0 b3;refine Rf ?_;rw[gE,decide_eq_false (ML hp0 hp1)];refine aj.2 ?_
 refine Join.intro (fun t h'=>t=false∧Upd No h4 h') (fun R hR=>?_) ?_
 ·refine⟨_,vc c0 0,_,vc c0 1,_,vc c0 2,_,vc c0 3,_,vc c0 4,_,vc c0 5,_,vc c1 0,_,vc c1 1,_,vc c1 2,_,vc c1 3,_,vc c1 4,_,vc c1 5,?_⟩
  refine Ax (t:=tb) (u:=to) fun h5 k5=>?_
  rw[yy ib io];have d0:=k5.get0 c0;have d2:=k5.get0 c2;refine aj.2 ⟨_,vc d0 0,_,vc d0 1,_,vc d0 2,_,vc d0 3,_,vc d0 4,_,vc d0 5,_,vc d2 0,_,vc d2 1,_,vc d2 2,_,vc d2 3,_,vc d2 4,_,vc d2 5,?_⟩;refine Ax (t:=tb) (u:=tt) fun h6 k6=>?_
  rw[yy ib it];exact hR _ _ ⟨rfl,k5.tr k6⟩
 rintro t h50 ⟨rfl,k50⟩;have d0:=k50.get0 c0;have d1:=k50.get0 c1;have d2:=k50.get0 c2;have d3:=k50.get0 b4;have k050:=k04.tr k50;have s50:=k50.size;have nB:=fB.len;have nO:=fO.len;have nT:=fT.len;refine aj.2 ⟨_,vc d0 0,_,vc d0 1,_,vc d0 2,_,vc d0 3,_,vc d0 4,_,vc d0 5,_,vc d2 0,_,vc d2 1,_,vc d2 2,_,vc d2 3,_,vc d2 4,_,vc d2 5,?_⟩;refine hdf (ib.upd0 k050) (it.upd0 k050) (fun e=>by rw[yy ib it]at e;cases e) fun _ h77 s77 hs77 k77=>?_
 have lC:=um fB.up fT.up;have at30:=Dd fB fT;have hcC:∀c∈iM B T,(c.1,(c.2.1,c.2.2.2.1),jI (look O c.1),(c.2.2.1,c.2.2.2.2))=Qm B O T c.1:=fun c hc=>by
  have e:=(RL fB.up fT.up hc).1;unfold Qm jI;rw[congrArg (·.2.1) e,congrArg (·.2.2.1) e,congrArg (·.2.2.2.1) e,congrArg (·.2.2.2.2) e]
 have hsetC:∀i (hi:i<(iM B T).length),O0 (iM B T)[i].1 (tk B O T p (iM B T)[i].1).1:=fun i hi=>hset _ (bN hi)
 have hmem:∀i (hi:i<(iM B T).length),(iM B T)[i]∈iM B T:=fun i hi=>bN hi
 have hconK:D5 B O T p (iM B T)=tC B O T p:=rfl;have hmrg:qQ B O T p O (iM B T)=pY B O T p:=rfl;have fM:∀i,Few (no+((iM B T).take i).length) (qQ B O T p O ((iM B T).take i)):=fun i=>zJ fB fO fT (fun c hc=>(at30 c (List.mem_of_mem_take hc)).1) fO
 clear hset;generalize iM B T=C at hs77 lC at30 hcC hmem hconK hmrg fM hsetC;have hsl:=hs77.within.sl (W:=fun y=>h77.size≤y) fun y hy _ hw=>by omega
 have hlen:s77.len=C.length:=hs77.len;have e1:=k77.get0 d1;have e3:=k77.get0 d3;have hz77:=k77.size;refine⟨_,vc e1 0,_,vc e1 1,_,vc e1 2,_,vc e1 3,_,vc e1 4,_,vc e1 5,?_⟩;refine uV (t:=to) fun h85 b85 k85=>?_
 have z85:=aO b85;have s85:=k85.size;have k085:=(k050.tr k77).tr k85;have f1:=k85.get0 e1;have f3:=k85.get0 e3;have hPo:Pro W h h85 h77.size:=.inr (by omega);have hP3:Pro W h h85 h3.size:=.inr (by omega);have hWP:=Pro.lt hW k085;refine LoopP.ghost (fun(g:Nat×(Nat→Prop)) (t:SliceV×Int) h'=>t.2=(g.1:Int)∧g.1≤C.length∧OwnS JF 7 dK g.2 h' t.1 ((D5 B O T p (C.take g.1)).map (Qm B O T))∧(∀y,g.2 y→h85.size≤y∧y<h'.size)∧(∃tv,TreeIs (fun y=>Pro W h h85 y∨g.2 y) h' kind x tv (qQ B O T p O (C.take g.1))∧h'[h77.size]? =some (.cells (fz tv).toArray aL (0,0)))∧Upd (· =h77.size) h85 h') (fun g=>C.length-g.1) (0,No)
  ⟨rfl,bw _,OwnS.nil RN,fun _ h=>h.elim,⟨to,(io.pro k085).less fun y hy=>.inl (hy.elim id fun h=>h.elim),b85⟩,Upd.refl _ _⟩ ?_
 rintro I ⟨i,S⟩ ⟨sv,ti⟩ h88 ⟨e,hi,ho,hS,⟨tv,iv,bv⟩,hu⟩ hI;simp only at e hi ho hS iv;subst e;have g1:=hu.get f1 (by show ¬h1.size=h77.size;omega);have g3:=hu.get f3 (by show ¬h3.size=h77.size;omega);have s88:=hu.size;have k088:Upd No h h88:=k085.own hu (by omega);refine aA (fun hlt=>?_) fun hge=>?_
 ·have hlt:i<C.length:=by simp only at hlt;omega
  obtain⟨a,ha,_,hv⟩:=((hsl.upd k85 fun _ h=>h.elim).upd hu fun y hy=>.inl (by have hy:y=h77.size:=hy;omega)).at (ai hlt)
  refine⟨⟨by simp only;omega,by simp only;omega⟩,a,ha,_,hv 0 _ rfl,_,hv 1 _ rfl,_,hv 2 _ rfl,_,hv 3 _ rfl,_,hv 4 _ rfl,?_⟩
  have fm:=fM i;have fml:=fm.len;rw[aQ]at fml;have hcon:(D5 B O T p (C.take i)).length≤C.length:=bc RH (by rw[aQ];omega);have hIc:=fun S' t h'=>hI (i+1,S') t h'
  simp only[KE hlt,PP hlt,List.map_append]at hIc;have hceq:=hcC _ (hmem i hlt);have hc30:=(at30 _ (hmem i hlt)).1;have hsc:= @hsetC i hlt;clear hI;generalize C[i]=c at hv hceq hc30 hIc hsc;refine Vi (c:=c) fun h96 b96 k96=>?_
  have s96:=k96.size;have z96:=aO b96;have p1:=k96.get0 g1;have k096:=k088.tr k96;have ig:∀{h'},Upd No h96 h'→TreeIs W h' kind x to O:=fun k=>io.upd0 (k096.tr k)
  have hWg:∀{h'},Upd No h96 h'→∀y,W y→y<h'.size:=fun k y hy=>aE (hW y hy) (k096.tr k).size
  refine Join.intro (fun t h'=>∃b,t=⟨b,0,none⟩∧h'[b]? =some (.cells (JF (Qm B O T c.1)).toArray dK (0,0))∧Upd No h96 h') (fun R hR=>?_) ?_
  ·rw[←hceq]at hR
   refine⟨c.1,vc b96 0,c.2.1,vc b96 1,c.2.2.2.1,vc b96 3,_,vc p1 0,_,vc p1 1,_,vc p1 2,_,vc p1 3,_,vc p1 4,_,vc p1 5,c.1,vc b96 0,c.2.2.1,vc b96 2,c.2.2.2.2,vc b96 4,?_,?_⟩
   ·refine dE (ig (Upd.refl _ _)) (hWg (Upd.refl _ _)) fO.up (by omega) c.1 fun h110 k110=>?_
    have q:=k110.get0 b96;refine⟨vc q 4,vc q 2,vc q 3,vc q 1,vc q 0,aM fun h111 b111 k111=>?_⟩
    have q':=k111.get0 q;refine⟨vc q' 4,vc q' 2,vc q' 3,vc q' 1,vc q' 0,?_⟩;refine be (c:=JF VK) (vs:=JF (c.1,(c.2.1,c.2.2.2.1),jI (look O c.1),(c.2.2.1,c.2.2.2.2))) b111 rfl fun h112 b112 hu112=>hR _ _ ⟨_,rfl,b112,(k110.tr k111).own hu112 k110.size⟩
   ·refine aM fun h149 b149 k149=>?_
    have q:=k149.get0 b96;have p2:=k149.get0 p1;refine⟨vc q 4,vc q 2,vc q 0,⟨vc p2 0,vc p2 1,vc p2 2,vc p2 3,vc p2 4,vc p2 5⟩,vc q 3,vc q 1,vc q 0,?_⟩;refine dE (ig k149) (hWg k149) fO.up (by omega) c.1 fun h151 k151=>?_
    have q':=k151.get0 q;refine⟨vc q' 4,vc q' 2,vc q' 3,vc q' 1,vc q' 0,?_⟩;refine be (c:=JF VK) (vs:=JF (c.1,(c.2.1,c.2.2.2.1),jI (look O c.1),(c.2.2.1,c.2.2.2.2))) (k151.get0 b149) rfl fun h152 b152 hu152=>hR _ _ ⟨_,rfl,b152,(k149.tr k151).own hu152 (aq _)⟩
  rintro _ h142 ⟨bx,rfl,b142,k142⟩;refine⟨_,sy b142 1 0,_,sy b142 1 1,_,sy b142 3 0,_,sy b142 3 1,_,sy b142 5 0,_,sy b142 5 1,?_⟩;refine Re (b:=jI (look B c.1)) (o:=jI (look O c.1)) (t:=jI (look T c.1)) fun h150 k150=>?_
  rw[SD];have hok:∀r,oB (look B c.1) (look O c.1) (look T c.1) p=r→tk B O T p c.1=r:=fun r e=>e
  have hsz:((tk B O T p c.1).1.getD ⟨#[]⟩).size≤30:=by
   unfold tk;rcases G7 (look B c.1) (look O c.1) (look T c.1) p with e|e|e
   ·rw[e];exact mY fB _
   ·rw[e];exact mY fO _
   ·rw[e];exact mY fT _
  have htk:oB (look B c.1) (look O c.1) (look T c.1) p=tk B O T p c.1:=rfl;rw[htk];generalize tk B O T p c.1=tkc at hIc hsz hsc;refine Vg (s:=jI tkc.1) fun h152 b152 k152=>?_
  have z152:=aO b152;have k88152:=((k96.tr k142).tr k150).tr k152;have k96152:=(k142.tr k150).tr k152;have s150:h88.size≤h150.size:=((k96.tr k142).tr k150).size;have s152:=k88152.size;have bv152:=k88152.get0 bv;have b96':=k96152.get0 b96;have bx152:=(k150.tr k152).get0 b142;have iv152:=iv.upd0 k88152;refine Join.intro (fun t h'=>∃S',OwnS JF 7 dK S' h' t ((D5 B O T p (C.take i)).map (Qm B O T)++(if tkc.2=true then[]else[c.1]).map (Qm B O T))∧(∀y,S' y→h85.size≤y∧y<h'.size)∧TreeIs (fun y=>Pro W h h85 y∨S' y) h' kind x tv (qQ B O T p O (C.take i))∧Upd S h152 h') (fun R hR=>?_) ?_
  ·refine CondP.intro (fun e=>?_) fun e=>?_
   ·have e2:tkc.2=false:=by simpa using e
    rw[e2,if_neg Bool.false_ne_true]at hR;refine⟨_,vc bx152 0,_,vc bx152 1,_,vc bx152 2,_,vc bx152 3,_,vc bx152 4,_,vc bx152 5,_,vc bx152 6,?_⟩;refine P3 (c:=Qm B O T c.1) (M:=fun y=>S y∨h152.size≤y) ((ho.upd k88152 fun _ _ h=>h).more fun _ h=>.inl h) (fun _ h=>.inr h) (by rw[cV];omega) fun s163 h164 ho164 hu164=>?_
    have s164:=hu164.size;refine hR _ _ ⟨_,ho164.within,fun y hy=>⟨?_,hy.2⟩,?_,hu164.mono fun y hy=>hy⟩
    ·rcases hy.1 with h|h
     ·exact(hS y h).1
     ·omega
    ·refine TreeIs.less (fun y hy=>?_) ((iv152.less (W':=fun y=>Pro W h h85 y∨(S y∨h152.size≤y)) fun y hy=>?_).updM hu164 fun y hy=>.inl (.inr hy))
     ·exact .inl (hy.imp id fun h=>h.1)
     ·rcases hy with h|h|h
      ·exact .inl (.inl h)
      ·exact .inl (.inr h)
      ·exact .inr h
   ·have e2:tkc.2=true:=by simpa using e
    rw[e2,if_pos rfl,List.map_nil,List.append_nil]at hR;exact hR _ _ ⟨S,ho.upd k88152 fun _ _ h=>h,fun y hy=>⟨(hS y hy).1,by have:=(hS y hy).2;omega⟩,iv152,Upd.refl _ _⟩
  rintro sv' h166 ⟨S',ho',hS',it',hu'⟩;have s166:=hu'.size;have nS:∀y,S y→h85.size≤y∧y<h88.size:=hS;have bv166:=hu'.get bv152 fun hx=>by have:=nS _ hx;omega
  have b96'':=hu'.get b96' fun hx=>by have:=nS _ hx;omega
  have b152':=hu'.get b152 fun hx=>by have:=nS _ hx;omega
  refine⟨_,vc bv166 0,_,vc bv166 1,_,vc bv166 2,_,vc bv166 3,_,vc bv166 4,_,vc bv166 5,c.1,vc b96'' 0,(jI tkc.1).1,vc b152' 0,(jI tkc.1).2,vc b152' 1,?_⟩;refine hsc it' (fun y hy=>hy.elim (fun h=>aE (hWP y h) (by omega)) fun h=>(hS' y h).2) fm.up fm.fits (by omega) (by omega) (by omega) fun h177 t' i177 k177=>?_
  have s177:=k177.size;refine be (c:=fz tv) (vs:=fz t') (k177.get0 bv166) rfl fun h178 b178 hu178=>?_
  have s178:=hu178.size;simp only;rw[pd hlt (by omega)];refine hIc S' _ _ ⟨rfl,hlt,(ho'.upd k177 fun _ _ h=>h).upd hu178 fun y hy e=>?_,fun y hy=>⟨(hS' y hy).1,by have:=(hS' y hy).2;omega⟩,⟨t',i177.updM hu178 fun y hy=>.inl (.inl (by have hy:y=h77.size:=hy;rw[hy];exact hPo)),b178⟩,?_⟩ (by omega)
  ·have e:y=h77.size:=e
   have:=(hS' y hy).1;omega
  ·refine((hu.tr k88152.wide).trans hu' fun y hy=>.inr (nS y hy).1).tr ?_
   exact k177.wide.tr hu178
 ·have hiN:i=C.length:=by simp only at hge;omega
  subst hiN;rw[List.take_length]at ho iv;rw[hconK]at ho;rw[hmrg]at iv;have hsvl:=ho.len;rw[cV]at hsvl;have hb:(tC B O T p= [])↔sv.len=0:=by rw[hsvl];exact aw.symm
  have ho2:OwnS JF 7 dK (fun y=>h.size≤y∧y≠h3.size) h88 sv ((tC B O T p).map (Qm B O T)):=ho.more fun y hy=>by have:=(hS y hy).1;omega
  refine Join.intro (fun t h'=>t=(decide (p=0)&&decide (sv.len>0))∧h'=h88) (fun R hR=>?_) ?_
  ·refine CondP.intro (fun e=>hR _ _ ⟨?_,rfl⟩) fun e=>hR _ _ ⟨?_,rfl⟩
   ·have e:p=0:=by simpa using e
    rw[decide_eq_true e,Bool.true_and,decide_eq_decide];simp only;omega
   ·have e:p≠0:=by simpa using e
    rw[decide_eq_false e,Bool.false_and]
  rintro t h' ⟨rfl,rfl⟩;refine CondP.intro (fun e=>?_) fun e=>?_
  ·have e:p=0∧sv.len>0:=by simpa using e
   refine⟨_,vc g1 0,_,vc g1 1,_,vc g1 2,_,vc g1 3,_,vc g1 4,_,vc g1 5,?_⟩;refine be (c:=fz sH) (vs:=fz to) g3 rfl fun h198 b198 hu198=>?_
   refine⟨_,vc b198 0,_,vc b198 1,_,vc b198 2,_,vc b198 3,_,vc b198 4,_,vc b198 5,?_⟩;exact hk0 e.1 (fun hc=>by have:=hb.1 hc;omega) h198 sv ((ho2.upd hu198 fun y hy e=>hy.2 e).more fun y hy=>hy.1) (k088.own hu198 (by omega))
  ·have e:p=0→sv.len=0:=fun hp=>by
    rw[decide_eq_true hp,Bool.true_and]at e;have:=of_decide_eq_false e;omega
   refine⟨_,vc bv 0,_,vc bv 1,_,vc bv 2,_,vc bv 3,_,vc bv 4,_,vc bv 5,?_⟩;refine be (c:=fz sH) (vs:=fz tv) g3 rfl fun h211 b211 hu211=>?_
   refine⟨_,vc b211 0,_,vc b211 1,_,vc b211 2,_,vc b211 3,_,vc b211 4,_,vc b211 5,?_⟩;exact hk (fun hp=>hb.2 (e hp)) h211 tv sv ((iv.updM hu211 fun y hy=>.inl (.inl (by have hy:y=h3.size:=hy;rw[hy];exact hP3))).less fun y hy=>.inl (.inl (.inl hy))) ((ho2.upd hu211 fun y hy e=>hy.2 e).more fun y hy=>hy.1) (k088.own hu211 (by omega))
theorem Fc{W:Nat→Prop}{x:Hs}{h:ad}{kind p:Int}{tb to tt:Tr}{B O T:List Pr}{nb no nt:Nat}(ib:TreeIs W h kind x tb B)(io:TreeIs W h kind x to O)(it:TreeIs W h kind x tt T)(hW:∀y,W y→y<h.size)(fB:Few nb B)(fO:Few no O)(fT:Few nt T)(lb:nb≤1000)(lo:no≤1000)(lt:nt≤1000)
  (hp0:0≤p)(hp1:p≤3){K:Tr×SliceV×Int→ad→Prop}
  (hk0:p=0→tC B O T p≠[]→∀h' s',OwnS JF 7 dK (fun y=>h.size≤y) h' s' ((tC B O T p).map (Qm B O T))→Upd No h h'→K (to,s',8) h')
  (hk:(p=0→tC B O T p= [])→∀h' t' s',TreeIs W h' kind x t' (pY B O T p)→OwnS JF 7 dK (fun y=>h.size≤y) h' s' ((tC B O T p).map (Qm B O T))→Upd No h h'→K (t',s',0) h'):
  HC PG qY [zo tb,zo to,zo tt,.int .i64 p] [.agg [.int .i64,.int .u64,.int .u64,.int .u64,.ptr,.ptr],.c .slice,.c (.int .i64)] K h:=
 Dr ib io it hW fB fO fT lb lo lt hp0 hp1 (V5 fB fT lb lt) (fun _ _=>U7 _ _) hk0 hk
end Go.Proofs
namespace Go.Proofs
open Go Go.Lift
theorem un:iM [(bA,b1)] [(bA,b1),(bB,b3)]= [(bB,⟨#[]⟩,b3,false,true)]:=by
 rw[rP (a:=(bA,b1)) (b:=(bA,b1)) rfl,jb];unfold xq;rw[if_pos rfl];rfl
theorem Rh(v w:ByteArray):look [(bA,v),(bB,w)] bB=some w:=by
 rw[gi,if_neg (fun e:bA=bB=>Vv e.symm),gi,if_pos rfl]
theorem KI(v:ByteArray):look [(bA,v)] bB=none:=by
 rw[gi,if_neg (fun e:bA=bB=>Vv e.symm)];rfl
theorem zq:tk [(bA,b1)] [(bA,b2)] [(bA,b1),(bB,b3)] 0 bB=(some b3,true):=by
 unfold tk;rw[KI,KI,Rh];unfold oB;rw[if_neg (by rintro(h|h)<;>cases h),if_pos rfl]
theorem Dy:(tC [(bA,b1)] [(bA,b2)] [(bA,b1),(bB,b3)] 0)= []:=by
 unfold tC D5;rw[un,List.map_singleton,List.filter_cons,zq];rfl
theorem Gu:pY [(bA,b1)] [(bA,b2)] [(bA,b1),(bB,b3)] 0= [(bA,b2),(bB,b3)]:=by
 unfold pY qQ;rw[un,List.foldl_cons,List.foldl_nil];simp only;rw[zq];show gV (bB,b3) [(bA,b2)]=_
 rw[fU,if_pos VJ];rfl
theorem Nr{h:ad}{K:Bool→ad→Prop}(hk:∀h',Upd No h h'→K true h'):HC PG xX [] [.c .bool] K h:=by
 refine LB ?_;unfold DS cj aN ae ax aD nv jR rB oa jH MZ Vz vl9 tf;refine aM fun h1 b1' k1=>?_
 have hs:Sl eu 2 No h1 ⟨some (ag h),1,1⟩ [(bA,b1)]:=⟨rfl,ge,fun _=>⟨_,rfl,fun h=>h.elim,oV b1' fun i v hv=>by simpa using hv⟩⟩
 refine u9 QM QN (by omega) (W:=No) (x:=⟨0,0,0⟩) hs (fun _ h=>h.elim) (by simp) (fun p hp=>by have:=Ha (v:=b1) (by decide) p hp;omega) fun h3 t i3 k3=>?_
 rw[Ob]at i3;refine uV (t:=t) fun h5 b5 k5=>?_
 refine aM fun h6 b6 k6=>?_
 have hs6:Sl eu 2 No h6 ⟨some (ag h5),1,1⟩ [(bA,b2)]:=⟨rfl,ge,fun _=>⟨_,rfl,fun h=>h.elim,oV b6 fun i v hv=>by simpa using hv⟩⟩
 refine u9 QM QN (by omega) (W:=No) (x:=⟨0,0,0⟩) hs6 (fun _ h=>h.elim) (by simp) (fun p hp=>by have:=Ha (v:=b2) (by decide) p hp;omega) fun h8 u i8 k8=>?_
 rw[Ob]at i8;refine uV (t:=u) fun h10 b10 k10=>?_
 refine aM fun h11 b11 k11=>?_
 have hs11:Sl eu 2 No h11 ⟨some (ag h10),2,2⟩ [(bA,b1),(bB,b3)]:=⟨rfl,ge,fun _=>⟨_,rfl,fun h=>h.elim,oV b11 fun i v hv=>by simpa using hv⟩⟩
 refine u9 QM QN (by omega) (W:=No) (x:=⟨0,0,0⟩) hs11 (fun _ h=>h.elim) (by simp) (fun p hp=>by have:=Pc (v:=b1) (w:=b3) (by decide) (by decide) p hp;omega) fun h13 w i13 k13=>?_
 rw[SN]at i13;refine uV (t:=w) fun h15 b15 k15=>?_
 have k1015:=(k11.tr k13).tr k15;have k515:=((k6.tr k8).tr k10).tr k1015;have c5:=k515.get0 b5;have c10:=k1015.get0 b10;refine⟨_,vc c5 0,_,vc c5 1,_,vc c5 2,_,vc c5 3,_,vc c5 4,_,vc c5 5,_,vc c10 0,_,vc c10 1,_,vc c10 2,_,vc c10 3,_,vc c10 4,_,vc c10 5,_,vc b15 0,_,vc b15 1,_,vc b15 2,_,vc b15 3,_,vc b15 4,_,vc b15 5,?_⟩;have fB:Few 2 [(bA,b1)]:=⟨cq ..,by decide,fun p hp=>by rw[aB.1 hp];exact⟨(by decide:bA.size≤30),(by decide:b1.size≤30)⟩⟩
 have fO:Few 2 [(bA,b2)]:=⟨cq ..,by decide,fun p hp=>by rw[aB.1 hp];exact⟨(by decide:bA.size≤30),(by decide:b2.size≤30)⟩⟩
 have fT:Few 2 [(bA,b1),(bB,b3)]:=⟨Hd,by decide,fun p hp=>by
  rcases List.mem_cons.1 hp with rfl|hp
  ·exact⟨(by decide:bA.size≤30),(by decide:b1.size≤30)⟩
  ·rw[aB.1 hp];exact⟨(by decide:bB.size≤30),(by decide:b3.size≤30)⟩⟩
 refine Dr (p:=0) (i3.upd0 (k5.tr k515)) (i8.upd0 (k10.tr k1015)) (i13.upd0 k15) (fun _ h=>h.elim) fB fO fT (by omega) (by omega) (by omega) (by omega) (by omega) (UD fB fT (by omega) (by omega) (by rw[un];decide)) (fun c hc=>by
  rw[un]at hc
  rw[aB.1 hc]
  simp only
  rw[zq]
  exact Ug _ _) (fun _ hne=>absurd Dy hne) fun _ h35 o so i35 ho35 k35=>?_
 rw[Dy]at ho35;have hz35:=ho35.len;rw[Gu]at i35;refine uV (t:=o) fun h37 b37 k37=>?_
 refine⟨_,vc b37 0,_,vc b37 1,_,vc b37 2,_,vc b37 3,_,vc b37 4,_,vc b37 5,?_⟩;refine Mb (W':=No) (i35.upd0 k37) Hd (by decide) (fun _ h=>h.elim) fun s45 h45 hs45 k45=>?_
 have hlen:=hs45.len;obtain⟨a,ha,_,hv⟩:=hs45.at (i:=0) (x:=(bA,b2)) rfl;obtain⟨a',ha',_,hv'⟩:=hs45.at (i:=1) (x:=(bB,b3)) rfl;rw[ha]at ha';cases ha';refine av.2 ?_;rw[show((so.len:Int)==(0:Int))=true by rw[hz35];rfl]
 refine av.2 ?_;rw[show((s45.len:Int)==(2:Int))=true by rw[hlen];rfl]
 refine av.2 ⟨⟨by omega,by rw[hlen];decide⟩,a,ha,b2,hv 1 _ rfl,?_⟩
 rw[beq_self_eq_true];refine av.2 ⟨⟨by omega,by rw[hlen];decide⟩,a,ha,b3,hv' 1 _ rfl,?_⟩
 rw[beq_self_eq_true];exact hk h45 ((((((k1.tr k3).tr k5).tr k515).tr k35).tr k37).tr k45)
end Go.Proofs
