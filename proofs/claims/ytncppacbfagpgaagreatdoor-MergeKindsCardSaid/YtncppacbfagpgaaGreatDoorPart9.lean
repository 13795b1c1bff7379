/- A part of the proof that the named laws of this program answer true, whatever the input. -/
import Derived.Test.YtncppacbfagpgaaGreatDoorPart8
import Derived.Test.YtncppacbfagpgaaGreatDoorPart0
open BitVec renaming ofInt→ao,ofInt_natCast→fD,toNat_ofNat→pf
open Bool renaming and_eq_true→bC,true_and→mh
open ByteArray renaming mk→nQ,size_extract→fN
open Int renaming toNat_natCast→aV,natCast_pow→rT
open List renaming getElem_mem→bw,length_eq_zero_iff→aA,getElem?_eq_getElem→ag,length_take→aR,map_append→cY,length_map→cD,map_nil→gS,append_nil→aJ,take_length→cd,take_succ_eq_append_getElem→bo,foldl_append→qh,pairwise_cons→aD,filterMap_cons→kY
open List.Pairwise renaming nil→ee
open Nat renaming le_trans→bh,lt_or_ge→bT,le_refl→aq,lt_of_lt_of_le→aQ,zero_le→aW,mod_eq_of_lt→dN,mul_comm→jz,pow_succ→nP,pow_add→pq,mod_lt→qL,mul_le_mul_right→cy,add_assoc→kR,mul_assoc→qY,add_mul→jG,succ_mul→kF,min_eq_left→bN,le_of_lt→w8,add_zero→dU
open UInt8 renaming toNat_lt→tU
namespace Go.Proofs
open Go Go.Lift Go.Sort
variable {dec:Int→Ch} {M:Nat→Prop} {s:SliceV} {h:ae} {d:Array Int}
@[simp] theorem Vr(lt:Int→Int→Bool)(hi first root:Nat)(d:Array Int):(siftDown lt hi first root d).size=d.size:=by
 fun_induction siftDown lt hi first root d<;>simp_all
@[simp] theorem Gq(lt:Int→Int→Bool)(hi first:Nat):∀(k:Nat) (d:Array Int),(heapBuild lt hi first k d).size=d.size
 |0,d=>rfl
 |k+1,d=>by rw[heapBuild,Gq lt hi first k];simp
theorem WZ{root hi first:Nat}(hs:SA dec M s h d)(hb:first+hi≤d.size){K:Unit→ae→Prop}(hk:∀h',SA dec M s h' (siftDown (Dg dec) hi first root d)→Upd M h h'→K () h')(hr:root≤1000000000):
  HC PG jl [.slice s.a s.len s.cap,.int .i64 root,.int .i64 hi,.int .i64 first,UN] [] K h:=by
 refine nZ s root hi first UN ?_
 unfold jn bM cB ml aO cr cP vq xw;have hsm:=hs.small;refine LoopP.ghost (fun(g:Nat×Array Int) (t:Int) h'=>t=(g.1:Int)∧SA dec M s h' g.2∧g.2.size=d.size∧siftDown (Dg dec) hi first g.1 g.2=siftDown (Dg dec) hi first root d∧Upd M h h'∧g.1≤1000000000) (fun g=>hi-g.1) (root,d)
  ⟨rfl,hs,rfl,rfl,Upd.refl _ _,hr⟩ ?_
 rintro I ⟨i,d1⟩ t h1 ⟨ht,hs1,hz1,hr1,hu1,hi1⟩ hI;simp only at ht hs1 hz1 hr1 hi1;subst ht;have w1:IntKind.wrap .i64 (IntKind.wrap .i64 (2*(i:Int))+1)=((2*i+1:Nat):Int):=by rw[gD (x:=2*(i:Int)) (by omega),gD (by omega)];omega
 have w2:IntKind.wrap .i64 (((2*i+1:Nat):Int)+1)=((2*i+2:Nat):Int):=by rw[gD (by omega)];omega
 rw[w1];refine az (fun hge=>?_) fun hlt=>?_
 ·refine hk _ ?_ hu1
  rw[←hr1,siftDown,dif_pos (by omega)];exact hs1
 ·have hlt:2*i+1<hi:=by omega
  refine Join.intro (fun t h'=>SA dec M s h' d1∧Upd No h1 h'∧∃c:Nat,t=(c:Int)∧c=if 2*i+2<hi∧(Dg dec) d1[first+(2*i+1)]! d1[first+(2*i+1)+1]! =true then 2*i+2 else 2*i+1) (fun R hR=>?_) ?_
  ·refine Join.intro (fun t h'=>SA dec M s h' d1∧Upd No h1 h'∧(t=true↔2*i+2<hi∧(Dg dec) d1[first+(2*i+1)]! d1[first+(2*i+1)+1]! =true)) (fun R2 hR2=>?_) ?_
   ·show CondP (decide (IntKind.wrap .i64 (((2*i+1:Nat):Int)+1)<(hi:Int))) _ _
    rw[w2];refine az (fun h3=>?_) fun h3=>hR2 _ _ ⟨hs1,Upd.refl _ _,by simp;omega⟩
    show(((0:Int)≤IntKind.wrap .i64 ((first:Int)+((2*i+1:Nat):Int))∧_)∧_)
    refine hs1.less (i:=first+(2*i+1)) (j:=first+(2*i+1)+1) (by rw[gD (by omega)];omega) (by rw[gD (x:=(first:Int)+_) (by omega),gD (by omega)];omega) (by omega) (by omega) fun h4 e4 hs4 k4 he4=>hR2 _ _ ⟨hs4,k4,?_⟩
    rw[he4];simp;omega
   ·rintro t h' ⟨hs4,k4,htr⟩
    refine CondP.intro (fun h3=>?_) fun h3=>?_
    ·show R (IntKind.wrap .i64 (((2*i+1:Nat):Int)+1)) _
     rw[w2];exact hR _ _ ⟨hs4,k4,_,rfl,by rw[if_pos (htr.1 h3)]⟩
    ·exact hR _ _ ⟨hs4,k4,_,rfl,by rw[if_neg fun hh=>by rw[htr.2 hh]at h3;cases h3]⟩
  ·rintro t h' ⟨hs4,k4,c,rfl,hc⟩
   have hcb:c<hi∧i<c:=by rw[hc];split<;>omega
   refine hs4.less (i:=first+i) (j:=first+c) (by rw[gD (by omega)];omega) (by rw[gD (by omega)];omega) (by omega) (by omega) fun h5 e5 hs5 k5 he5=>?_
   have hu5:=hu1.tr (k4.tr k5).wide;rw[he5];have hstep:siftDown (Dg dec) hi first i d1=if !(Dg dec) d1[first+i]! d1[first+c]! then d1 else siftDown (Dg dec) hi first c (swp d1 (first+i) (first+c)):=by
    rw[siftDown,dif_neg (by omega)];by_cases hq:2*i+2<hi∧(Dg dec) d1[first+(2*i+1)]! d1[first+(2*i+1)+1]! =true
    ·rw[if_pos (by simp only[bC,decide_eq_true_iff];exact hq),dif_pos hq.1]
     rw[if_pos hq]at hc;rw[hc]
    ·rw[if_neg (by simp only[bC,decide_eq_true_iff];exact hq)]
     rw[if_neg hq]at hc;rw[hc]
   refine CondP.intro (fun h3=>?_) fun h3=>?_
   ·refine hk _ ?_ hu5
    rw[←hr1,hstep,if_pos h3];exact hs5
   ·refine hs5.swap (i:=first+i) (j:=first+c) (by rw[gD (by omega)];omega) (by rw[gD (by omega)];omega) (by omega) (by omega) fun h6 hs6 hu6=>?_
    refine hI (c,swp d1 (first+i) (first+c)) _ _ ⟨rfl,hs6,by simp[hz1],?_,hu5.tr hu6,by simp only;omega⟩ (by simp only;omega)
    rw[←hr1,hstep,if_neg (by rw[h3];simp)]
end Go.Proofs
namespace Go.Proofs
open Go Go.Lift Go.Sort
variable {dec:Int→Ch} {M:Nat→Prop} {s:SliceV} {h:ae} {d:Array Int}
end Go.Proofs
namespace Go.Proofs
open Go Go.Lift Go.Sort
variable {dec:Int→Ch} {M:Nat→Prop} {s:SliceV} {h:ae} {d:Array Int}
@[simp] theorem FK(lt:Int→Int→Bool):∀(j:Nat) (d:Array Int),(shiftDown lt j d).size=d.size
 |0,d=>rfl
 |j+1,d=>by rw[shiftDown];split;rfl;rw[FK lt j];simp
@[simp] theorem VR(lt:Int→Int→Bool)(e j:Nat)(d:Array Int):(shiftUp lt e j d).size=d.size:=by
 fun_induction shiftUp lt e j d<;>simp_all
theorem Vu{a e:Nat}(hs:SA dec M s h d)(ha:a<e)(he:e≤d.size){K:Bool→ae→Prop}(hk:∀h',SA dec M s h' (partialInsertionSort (Dg dec) d a e).1→Upd M h h'→K (partialInsertionSort (Dg dec) d a e).2 h'):
  HC PG d8 [.slice s.a s.len s.cap,.int .i64 a,.int .i64 e,UN] [.c .bool] K h:=by
 refine j8 s a e UN ?_;unfold fP bM cB ml aO cr cP vq xw;have hsm:=hs.small;refine LoopP.ghost (fun(g:Nat×Nat×Array Int) (t:Int×Int) h'=>t.1=(g.2.1:Int)∧t.2=5-(g.1:Int)∧SA dec M s h' g.2.2∧g.2.2.size=d.size∧partialIns (Dg dec) a e g.1 g.2.1 g.2.2=partialInsertionSort (Dg dec) d a e∧Upd M h h'∧g.1≤5∧a<g.2.1∧g.2.1≤e) (fun g=>g.1) (5,a+1,d)
  ⟨by simp only;rw[gD (by omega)];rfl,by simp only;omega,hs,rfl,rfl,Upd.refl _ _,by simp,by simp,by simp only;omega⟩ ?_
 rintro I ⟨st,i0,d1⟩ ⟨t1,t2⟩ h1 ⟨ht1,ht2,hs1,hz1,hr1,hu1,hst,hai,hie⟩ hI;simp only at ht1 ht2 hs1 hz1 hr1 hst hai hie;subst ht1 ht2;refine az (fun hlt=>?_) fun hge=>?_
 ·obtain⟨st,rfl⟩:∃k,st=k+1:=⟨st-1,by have:5-(st:Int)<5:=hlt;omega⟩
  refine Join.intro (fun t h'=>∃i2 d2,t=(i2:Nat)∧SA dec M s h' d2∧d2.size=d.size∧partialIns (Dg dec) a e st i2 d2=partialInsertionSort (Dg dec) d a e∧Upd M h h'∧a<i2∧i2≤e) (fun R hR=>?_) ?_
  ·refine LoopP.ghost (fun(i:Nat) (t:Int) h'=>t=(i:Int)∧SA dec M s h' d1∧Upd No h1 h'∧scanSorted (Dg dec) d1 e i=scanSorted (Dg dec) d1 e i0∧a<i∧i≤e) (fun i=>e-i) i0 ⟨rfl,hs1,Upd.refl _ _,rfl,hai,hie⟩ ?_
   rintro I2 i t h' ⟨rfl,hs2,k2,hsc,hai2,hie2⟩ hI2;refine Join.intro (fun c h''=>SA dec M s h'' d1∧Upd No h' h''∧(c=true↔i<e∧(Dg dec) d1[i]! d1[i-1]! =false)) (fun R2 hR2=>?_) ?_
   ·refine az (fun hle=>?_) fun hgt=>hR2 _ _ ⟨hs2,Upd.refl _ _,by simp;omega⟩
    exact hs2.less (i:=i) (j:=i-1) rfl (by rw[gD (by omega)];omega) (by omega) (by omega) fun h3 e3 hs3 k3 he3=>hR2 _ _ ⟨hs3,k3,by rw[he3];simp;omega⟩
   ·rintro c h'' ⟨hs3,k3,hc⟩
    have huA:=hu1.tr (k2.tr k3).wide;refine CondP.intro (fun h2=>?_) fun h2=>?_
    ·have hh:=hc.1 h2
     refine hI2 (i+1) _ _ ⟨by rw[gD (by omega)];rfl,hs3,k2.tr k3,?_,by omega,by omega⟩ (by omega)
     rw[←hsc];conv=>rhs;rw[scanSorted]
     rw[if_pos (by simp[hh])]
    ·have hsi:scanSorted (Dg dec) d1 e i=i:=by
      rw[scanSorted,if_neg];intro hh;simp only[bC,decide_eq_true_iff,Bool.not_eq_eq_eq_not,Bool.not_true]at hh;rw[hc.2 hh]at h2;cases h2
     have hr2:=hr1;rw[partialIns]at hr2;simp only[←hsc,hsi]at hr2;refine CondP.intro (fun h3=>?_) fun h3=>?_
     ·have h3:i=e:=by
       have:(i:Int)=e:=by simpa using h3
       omega
      rw[if_pos h3]at hr2;rw[←hr2]at hk;exact hk _ hs3 huA
     ·have h3:i≠e:=fun e'=>by subst e';simp at h3
      rw[if_neg h3]at hr2;have we:IntKind.wrap .i64 ((e:Int)-(a:Int))=((e-a:Nat):Int):=by rw[gD (by omega)];omega
      show CondP (decide (IntKind.wrap .i64 ((e:Int)-(a:Int))<50)) _ _
      rw[we];refine az (fun h4=>?_) fun h4=>?_
      ·rw[if_pos (by omega)]at hr2
       rw[←hr2]at hk;exact hk _ hs3 huA
      ·rw[if_neg (by omega)]at hr2
       have hi1:1≤i:=by omega
       refine hs3.swap (i:=i) (j:=i-1) rfl (by rw[gD (by omega)];omega) (by omega) (by omega) fun h5 hs5 hu5=>?_
       have hz5:(swp d1 i (i-1)).size=d.size:=by simp[hz1]
       generalize swp d1 i (i-1)=d5 at hs5 hz5 hr2;refine Join.intro (fun _ h'=>SA dec M s h' (if i-a≥2 then shiftDown (Dg dec) (i-1) d5 else d5)∧Upd M h h') (fun R3 hR3=>?_) ?_
       ·have wi:IntKind.wrap .i64 ((i:Int)-(a:Int))=((i-a:Nat):Int):=by rw[gD (by omega)];omega
        show CondP (decide (IntKind.wrap .i64 ((i:Int)-(a:Int))≥2)) _ _
        rw[wi];refine az (fun h6=>?_) fun h6=>?_
        ·rw[if_pos (by omega)]at hR3
         refine LoopP.ghost (fun(g:Nat×Array Int) (t:Int) h'=>t=(g.1:Int)∧SA dec M s h' g.2∧g.2.size=d.size∧shiftDown (Dg dec) g.1 g.2=shiftDown (Dg dec) (i-1) d5∧Upd M h h'∧g.1<e) (fun g=>g.1) (i-1,d5)
          ⟨by rw[gD (by omega)];simp only;omega,hs5,hz5,rfl,huA.tr hu5,by simp only;omega⟩ ?_
         rintro I4 ⟨j,d6⟩ t h7 ⟨ht,hs7,hz7,hr7,hu7,hje⟩ hI4;simp only at ht hs7 hz7 hr7 hje;subst ht;refine az (fun h8=>?_) fun h8=>?_
         ·obtain⟨j,rfl⟩:∃k,j=k+1:=⟨j-1,by omega⟩
          have e1:IntKind.wrap .i64 (((j+1:Nat):Int)-1)=(j:Int):=by rw[gD (by omega)];omega
          rw[shiftDown]at hr7;refine hs7.less (i:=j+1) (j:=j) rfl e1 (by omega) (by omega) fun hL eL hsL kL heL=>?_
          have huL:=hu7.tr kL.wide;rw[heL];refine CondP.intro (fun h9=>?_) fun h9=>?_
          ·rw[if_pos h9]at hr7
           exact hR3 _ _ ⟨by rw[←hr7];exact hsL,huL⟩
          ·rw[if_neg (by rw[h9];simp)]at hr7
           refine hsL.swap (i:=j+1) (j:=j) rfl e1 (by omega) (by omega) fun h10 hs10 hu10=>?_
           exact hI4 (j,swp d6 (j+1) j) _ _ ⟨e1,hs10,by simp[hz7],hr7,huL.tr hu10,by simp only;omega⟩ (by simp)
         ·have:j=0:=by omega
          subst this;exact hR3 _ _ ⟨by rw[←hr7];exact hs7,hu7⟩
        ·rw[if_neg (by omega)]at hR3
         exact hR3 _ _ ⟨hs5,huA.tr hu5⟩
       ·rintro _ h6 ⟨hs6,hu6⟩
        have hz6:(if i-a≥2 then shiftDown (Dg dec) (i-1) d5 else d5).size=d.size:=by split<;>simp[hz5]
        generalize (if i-a≥2 then shiftDown (Dg dec) (i-1) d5 else d5)=d6 at hs6 hz6 hr2
        have wi:IntKind.wrap .i64 ((e:Int)-(i:Int))=((e-i:Nat):Int):=by rw[gD (by omega)];omega
        show CondP (decide (IntKind.wrap .i64 ((e:Int)-(i:Int))≥2)) _ _
        rw[wi];refine az (fun h7=>?_) fun h7=>?_
        ·rw[if_pos (by omega)]at hr2
         refine LoopP.ghost (fun(g:Nat×Array Int) (t:Int) h'=>t=(g.1:Int)∧SA dec M s h' g.2∧g.2.size=d.size∧shiftUp (Dg dec) e g.1 g.2=shiftUp (Dg dec) e (i+1) d6∧Upd M h h'∧1≤g.1∧g.1≤e) (fun g=>e-g.1) (i+1,d6)
          ⟨by rw[gD (by omega)];rfl,hs6,hz6,rfl,hu6,by simp,by simp only;omega⟩ ?_
         rintro I4 ⟨j,d7⟩ t h8 ⟨ht,hs8,hz8,hr8,hu8,hj1,hje⟩ hI4;simp only at ht hs8 hz8 hr8 hj1 hje;subst ht;refine az (fun h9=>?_) fun h9=>?_
         ·have e1:IntKind.wrap .i64 ((j:Int)-1)=((j-1:Nat):Int):=by rw[gD (by omega)];omega
          rw[shiftUp,if_pos (by omega)]at hr8;refine hs8.less (i:=j) (j:=j-1) rfl e1 (by omega) (by omega) fun hL eL hsL kL heL=>?_
          have huL:=hu8.tr kL.wide;rw[heL];refine CondP.intro (fun h10=>?_) fun h10=>?_
          ·rw[if_pos h10]at hr8
           exact hR _ _ ⟨i,d7,rfl,hsL,hz8,by rw[hr8];exact hr2,huL,hai2,hie2⟩
          ·rw[if_neg (by rw[h10];simp)]at hr8
           refine hsL.swap (i:=j) (j:=j-1) rfl e1 (by omega) (by omega) fun h11 hs11 hu11=>?_
           exact hI4 (j+1,swp d7 j (j-1)) _ _ ⟨by rw[gD (by omega)];rfl,hs11,by simp[hz8],hr8,huL.tr hu11,by simp,by simp only;omega⟩ (by simp only;omega)
         ·rw[shiftUp,if_neg (by omega)]at hr8
          exact hR _ _ ⟨i,d7,rfl,hs8,hz8,by rw[hr8];exact hr2,hu8,hai2,hie2⟩
        ·rw[if_neg (by omega)]at hr2
         exact hR _ _ ⟨i,d6,rfl,hs6,hz6,hr2,hu6,hai2,hie2⟩
  ·rintro t h' ⟨i2,d2,rfl,hs2,hz2,hr2,hu2,hai2,hie2⟩
   exact hI (st,i2,d2) _ _ ⟨rfl,by simp only;rw[gD (by omega)];omega,hs2,hz2,hr2,hu2,by simp only;omega,hai2,hie2⟩ (by simp)
 ·have:st=0:=by have:¬5-(st:Int)<5:=hge;omega
  subst this;rw[partialIns]at hr1;rw[←hr1]at hk;exact hk _ hs1 hu1
end Go.Proofs
namespace Go.Proofs
open Go Go.Lift Go.Sort
variable {dec:Int→Ch} {M:Nat→Prop} {s:SliceV} {h:ae} {d:Array Int}
theorem Zi(x:Int):IntKind.wrap .u64 x=x%18446744073709551616:=by
 simp[IntKind.wrap,IntKind.bits,IntKind.signed]
theorem and_le_right(x:Int){m:Int}(h0:0≤m)(hm:m<18446744073709551616):0≤IntKind.wrap .u64 ((ao (IntKind.bits .u64) x&&&ao (IntKind.bits .u64) m).toNat:Int)∧IntKind.wrap .u64 ((ao (IntKind.bits .u64) x&&&ao (IntKind.bits .u64) m).toNat:Int)≤m:=by
 have h1:(ao (IntKind.bits .u64) x&&&ao (IntKind.bits .u64) m).toNat≤(ao (IntKind.bits .u64) m).toNat:=by
  rw[BitVec.toNat_and];exact Nat.and_le_right
 have h2:((ao (IntKind.bits .u64) m).toNat:Int)=m:=by
  show((ao 64 m).toNat:Int)=m
  rw[BitVec.toNat_ofInt];have:m%((2^64:Nat):Int)=m:=Int.emod_eq_of_lt h0 (by omega);rw[this];omega
 rw[Zi];omega
end Go.Proofs
namespace Go.Proofs
open Go Go.Lift Go.Sort
variable {dec:Int→Ch} {M:Nat→Prop} {s:SliceV} {h:ae} {d:Array Int}
end Go.Proofs
namespace Go.Proofs
open Go Go.Lift
end Go.Proofs
namespace Go.Proofs
open Go Go.Lift
theorem Few.mono{n m:Nat}{L:List Pr}(f:Few n L)(h:n≤m):Few m L:=⟨f.up,bh f.len h,f.fit⟩
end Go.Proofs
namespace Go.Proofs
open Go Go.Lift
theorem Mi{W:Nat→Prop}{h:ae}{b:Nat}{l:List Pr}(t:RadAt W h b l)(hW:∀y,W y→y<h.size)(hr:bO l)(k:ByteArray){K:ByteArray×Bool→ae→Prop}
  (hk:∀h',Upd No h h'→K ((look l k).getD ⟨#[]⟩,(look l k).isSome) h'):HC PG ye [.pointer (some ⟨b,0,none⟩),.string k] [.c .str,.c .bool] K h:=by
 refine Nj (some ⟨b,0,none⟩) k ?_;unfold Ew bM cB bR aO ij nn nm Kk;refine IU (.inr ⟨b,rfl,t⟩) hW fun h2 b2 t2 hu2 _=>?_
 obtain⟨w,F,r1,r2,r3⟩:=t2.ex;have hin:∀v,xz w F k.data.toList v↔look l k=some v:=fun v=>by
  rw[←mT,r3];constructor
  ·rintro⟨p,hp,e1,rfl⟩
   rw[←wV.1 e1];exact vC hr hp
  ·intro hp;exact⟨_,ri hp,rfl,rfl⟩
 refine LoopP.ghost (fun(g:ByteArray×Nat×ByteArray×Option ByteArray×Fo) (t:ByteArray×Option Addr) h'=>t=(g.1,some ⟨g.2.1,0,none⟩)∧RxN W h' g.2.1 g.2.2.1 g.2.2.2.1 g.2.2.2.2∧gJ g.2.2.2.2∧(∀v,xz g.2.2.2.1 g.2.2.2.2 g.1.data.toList v↔look l k=some v)∧Upd No h h') (fun g=>g.1.size) (k,b2,⟨#[]⟩,w,F) ⟨rfl,r1,r2,hin,hu2⟩ ?_
 clear hin r1 r2 r3 t2;rintro I ⟨kk,c,sl,w,F⟩ t h5 ⟨rfl,r,hc,hin,hu⟩ hI;simp only at r hc hin;simp only[gd];by_cases hk0:kk=⟨#[]⟩
 ·subst hk0
  refine aj.2 (Mb r ?_);have e:look l k=w:=Option.ext fun v=>by
   rw[←hin v];constructor
   ·rintro(⟨_,h⟩|h)
    ·exact h
    ·exact absurd rfl (qA hc h)
   ·intro h;exact .inl ⟨rfl,h⟩
  rw[e]at hk;exact hk _ hu
 ·rw[decide_eq_false hk0]
  refine ay.2 ?_;have hkne:kk.data.toList≠[]:=fun e=>hk0 (by cases kk;exact congrArg nQ (Array.toList_inj.1 e))
  obtain⟨c0,hc0,hc0e⟩:=Gr hkne;refine⟨c0,Int.le_refl _,hc0,?_⟩;have hr0:=r;obtain⟨val,s,ow,ks,hb,_,hs,hcap,hF⟩:=r;have hL:=oM.1 hF;have hcan:=gc.1 hc;have none_of:(∀v,¬vO F kk.data.toList v)→K ((⟨#[]⟩:ByteArray),false) h5:=fun hno=>by
   have e:look l k=none:=by
    cases e:look l k with
    |none=>rfl
    |some v=>
     rcases(hin v).2 e with⟨h,_⟩|h
     ·exact absurd h hkne
     ·exact absurd h (hno v)
   rw[e]at hk;exact hk _ hu
  refine IV hr0 hc (c:=c0.toNat) (tU _) fun i ok hil hlo hhi hok=>?_
  rw[hc0e]at hlo hhi hok;cases ok with
  |false=>
   refine ay.2 (none_of fun v hin=>?_)
   obtain⟨n',hn',e,_⟩:=tc hc hin;obtain⟨j,hj,rfl⟩:=List.getElem_of_mem hn';rcases bT j i with hl|hl
   ·have:=hlo j hj hl;omega
   ·have h1:=hhi j hj hl
    have h2:=hhi i (by omega) (aq _);rcases bT i j with hl2|hl2
    ·have h3:=List.pairwise_iff_getElem.1 hcan.1 i j (by omega) hj hl2
     omega
    ·have:i=j:=by omega
     subst this;have:=hok.2 ⟨hj,e⟩;cases this
  |true=>
   obtain⟨hi,hie⟩:=hok.1 rfl;refine aj.2 ⟨_,rfl,s,eT (i:=3) hb,?_⟩;obtain⟨kb,ksl,hki,hkl,hkn⟩:=hL.at hi;have hmem:F.toL[i]∈F.toL:=bw hi;have hcm:=hcan.2 _ hmem;obtain⟨a,ha,_,hvv⟩:=hs.at0 hki;have hslen:=hs.len;rw[hL.1]at hslen;have hin_m:∀v,vO F kk.data.toList v↔AI F.toL[i] kk.data.toList v:=fun v=>by
    constructor
    ·intro hin
     obtain⟨n',hn',e,hN⟩:=tc hc hin;rw[←Fl hc hn' hmem (by omega)];exact hN
    ·intro hin;exact ju.2 ⟨_,hmem,hin⟩
   refine⟨⟨by simp only;omega,by simp only;omega⟩,a,ha,some ⟨kb,0,none⟩,hvv,_,rfl,?_⟩
   obtain⟨kval,kss,kow,kks,hkb,_⟩:=id hkn;generalize F.toL[i]=m at hkl hkn hcm hin_m hie;obtain⟨lab,wk,Fk⟩:=m;simp only at hkl hkn hcm hie hkb;refine⟨ksl,eT (i:=0) hkb,X4 (fun rest hrest=>?_) fun hno=>?_⟩
   ·rw[hkl]at hrest
    have hlne:lab.length≠0:=fun e=>hcm.1 (aA.1 e)
    have hrl:rest.size<kk.size:=by
     rw[←sM rest,←sM kk,hrest,List.length_append];omega
    refine aj.2 (hI (rest,kb,ksl,wk,Fk) _ _ ⟨rfl,hkn,hcm.2.2,fun v=>?_,hu⟩ hrl)
    rw[←hin v];constructor
    ·intro h;exact .inr ((hin_m v).2 ⟨_,hrest,h⟩)
    ·rintro(⟨h,_⟩|h)
     ·exact absurd h hkne
     ·obtain⟨r',e,hr'⟩:=(hin_m v).1 h
      simp only at e;rw[hrest]at e;rw[List.append_cancel_left e];exact hr'
   ·rw[hkl]at hno
    refine ay.2 (none_of fun v h=>?_)
    obtain⟨r',e,_⟩:=(hin_m v).1 h;exact hno r' e
theorem VM{W:Nat→Prop}{x:Hs}{h:ae}{kind:Int}{t:Tr}{l:List Pr}(i:TreeIs W h kind x t l)(hW:∀y,W y→y<h.size)(hr:bO l)(hn:l.length≤1000000)(k:ByteArray){K:Sd→ae→Prop}(hk:∀h',Upd No h h'→K ((look l k).getD ⟨#[]⟩,(look l k).isSome) h'):HC PG rK [A4 t,.string k] [.c .str,.c .bool] K h:=by
 refine EX t k ?_;unfold xh aU cM aH vr pj A0 nn;rcases i with⟨_,b,rfl,t⟩|⟨_,b,rfl,t⟩
 ·refine aS fun h1 b1 k1=>⟨_,vc b1 0,aj.2 ⟨_,js b1 1 0,_,js b1 1 1,_,js b1 1 2,_,vc b1 4,?_⟩⟩
  exact Na (TrieAt.upd0 k1 t) (fun y hy=>aQ (hW y hy) k1.size) hr hn k fun h2 k2=>hk h2 (k1.tr k2)
 ·refine aS fun h1 b1 k1=>⟨_,vc b1 0,ay.2 ⟨_,vc b1 5,?_⟩⟩
  exact Mi (t.upd0 k1) (fun y hy=>aQ (hW y hy) k1.size) hr k fun h2 k2=>hk h2 (k1.tr k2)
end Go.Proofs
namespace Go.Proofs
open Go Go.Lift
theorem QR{W:Nat→Prop}{x:Hs}{h:ae}{kind:Int}{t:Tr}{l:List Pr}(i:TreeIs W h kind x t l)(hW:∀y,W y→y<h.size)(hr:bO l)(hn:l.length≤1000000)(k:ByteArray){K:Sd→ae→Prop}(hk:∀h',Upd No h h'→K (zq (look l k)) h'):HC PG uo [A4 t,.string k] [.agg [.str,.bool]] K h:=by
 refine Nv t k ?_;unfold EF aU af aH di pj sQ aw nn cT A6 vA;refine aS fun h1 b1 k1=>aS fun h2 b2 k2=>?_
 have c1:=k2.get0 b1;have k12:=k1.tr k2;refine⟨_,vc c1 0,_,vc c1 1,_,vc c1 2,_,vc c1 3,_,vc c1 4,_,vc c1 5,?_⟩;refine VM (i.upd0 k12) (fun y hy=>aQ (hW y hy) k12.size) hr hn k fun h3 k3=>?_
 refine cO (c:= [.string (⟨#[]⟩:ByteArray),.bool false]) (vs:=XB (zq (look l k))) (k3.get0 b2) rfl fun h4 b4 hu4=>?_
 exact⟨_,vc b4 0,_,vc b4 1,hk h4 ((k12.tr k3).own hu4 k1.size)⟩
def Vb(k:ByteArray)(o:Option ByteArray):Prop:=∀{W:Nat→Prop} {x:Hs} {h:ae} {kind:Int} {t:Tr} {l:List Pr},TreeIs W h kind x t l→(∀y,W y→y<h.size)→bO l→Fit l→l.length≤1000000→k.size≤256→(o.getD ⟨#[]⟩).size≤4096→∀{K:Tr→ae→Prop},
 (∀h' t',TreeIs W h' kind x t' (N9 l k o)→Upd No h h'→K t' h')→HC PG yi [A4 t,.string k,.agg #[.string (zq o).1,.bool (zq o).2]] [.agg [.int .i64,.int .u64,.int .u64,.int .u64,.ptr,.ptr]] K h
theorem XA(k v:ByteArray):Vb k (some v):=by
 intro W x h kind t l i hW hr hf hn hk1 hv1 K hk;refine Nu t k (zq (some v)) ?_;unfold EE aU af aH di xB pj sQ Fz aw vE qn cT vA;refine aS fun h1 b1 k1=>aS fun h2 b2 k2=>aS fun h3 b3 k3=>?_
 have z1:=aZ b1;have z2:=aZ b2;have z3:=aZ b3;have s1:h.size≤h1.size:=k1.size;have s2:h1.size≤h2.size:=k2.size;have s3:=k3.size;have k03:=(k1.tr k2).tr k3;have c1:=k3.get0 (k2.get0 b1);have c2:=k3.get0 b2;have hP0:Pro W h h3 h.size:=.inr (by omega);have hP2:Pro W h h3 h2.size:=.inr (by omega);refine Join.plain ⟨true,vc c2 1,ay.2 ⟨_,vc c1 0,_,vc c1 1,_,vc c1 2,_,vc c1 3,_,vc c1 4,_,vc c1 5,v,vc c2 0,?_⟩⟩
 refine LZ (i.pro k03) (Pro.lt hW k03) hr hn (k,v) hk1 hv1 fun h4 t' i4 _ k4=>?_
 refine cO (c:=ly t) (vs:=ly t') (k4.get0 c1) rfl fun h6 b6 u6=>?_
 have i6:=i4.updM u6 fun y hy=>.inl (by have hy:y=h.size:=hy;rw[hy];exact hP0)
 have r6:=u6.oth (k4.get0 b3) (by omega);refine⟨_,vc b6 0,_,vc b6 1,_,vc b6 2,_,vc b6 3,_,vc b6 4,_,vc b6 5,?_⟩;refine cO (c:=ly HL) (vs:=ly t') r6 rfl fun h7 b7 hu7=>?_
 have s4:=k4.size;refine⟨_,vc b7 0,_,vc b7 1,_,vc b7 2,_,vc b7 3,_,vc b7 4,_,vc b7 5,hk h7 t' ((i6.updM hu7 fun y hy=>.inl (by have hy:y=h2.size:=hy;rw[hy];exact hP2)).less Pro.sub) ?_⟩
 exact((k03.tr k4).own u6 (aq _)).own hu7 (by omega)
def Y6(B T:List Pr):Prop:=∀{W W':Nat→Prop} {x x':Hs} {h:ae} {kind kind':Int} {t u:Tr},TreeIs W h kind x t B→TreeIs W' h kind' x' u T→∀{K:SliceV×Int→ae→Prop},(jj t u=false→∀h',Upd No h h'→K (⟨none,0,0⟩,11) h')→(jj t u=true→∀h' s',OwnS EV 5 cp (fun y=>h.size≤y) h' s' (iH B T)→Upd No h h'→K (s',0) h')→HC PG vJ [A4 t,A4 u] [.c .slice,.c (.int .i64)] K h
theorem UI{n m:Nat}{B T:List Pr}(fB:Few n B)(fT:Few m T)(hn:n≤1000)(hm:m≤1000)(h12:(iH B T).length≤12):Y6 B T:=fun i i' _ h0 hk=>Sx i i' fB.up fB.fits (by have:=fB.len;omega) fT.up fT.fits (by have:=fT.len;omega) (fun _=>h12) h0 hk
theorem Gb{p:Int}(h0:0≤p)(h1:p≤3):Jn p≠⟨#[]⟩:=by
 unfold Jn;have hp:p=0∨p=1∨p=2∨p=3:=by omega
 rcases hp with rfl|rfl|rfl|rfl<;>decide
abbrev vM(c:Cf):List Value:= [.string c.1,.string c.2.1.1,.bool c.2.1.2,.string c.2.2.1.1,.bool c.2.2.1.2,.string c.2.2.2.1,.bool c.2.2.2.2]
abbrev Vz:Cf:=(⟨#[]⟩,(⟨#[]⟩,false),(⟨#[]⟩,false),(⟨#[]⟩,false))
theorem GK(c:Cf):(vM c).length=7∧0<7:=⟨rfl,by omega⟩
theorem JT{t:TypeId}{M:Nat→Prop}{h:ae}{so:SliceV}{out:List Cf}{c:Cf}{K:SliceV→ae→Prop}(ho:OwnS vM 7 t M h so out)(hM:∀b,h.size≤b→M b)(hn:out.length+1≤100000000)
  (hk:∀s' h',OwnS vM 7 t M h' s' (out++ [c])→Upd M h h'→K s' h'):
  At (hnew h (vM c) t) fun h1=>∃xs,SRow h1 (some (aE h)) (1*7) xs∧AppP (some (vM Vz)) 7 88 t so.a so.len so.cap 1 xs h1 K:=by
 refine aS fun h1 b1 k1=>?_
 have z1:=aZ b1;have o1:OwnS vM 7 t (fun _=>True) h1 ⟨some (aE h),1,1⟩ [c]:=⟨rfl,GK,aq _,.inr ⟨h.size,[],rfl,trivial,b1,rfl⟩⟩
 refine⟨_,(o1.sl (W:=No) fun _ _ _ h=>h).srow,?_⟩
 refine AppP.own (ys:= [c]) (ho.upd k1 fun _ _ h=>h) rfl rfl rfl rfl (by omega) (by simp only[List.length_singleton];omega) (hM _ k1.size) fun s' h' ho' hu=>?_
 exact hk s' h' ho' (k1.wide.tr hu)
set_option maxHeartbeats 1000000 in
theorem Ee{W:Nat→Prop}{x:Hs}{h:ae}{kind p:Int}{tb to tt:Tr}{B O T:List Pr}{nb no nt:Nat}(ib:TreeIs W h kind x tb B)(io:TreeIs W h kind x to O)(it:TreeIs W h kind x tt T)(hW:∀y,W y→y<h.size)(fB:Few nb B)(fO:Few no O)(fT:Few nt T)(lb:nb≤1000)(lo:no≤1000)(lt:nt≤1000)
  (hp0:0≤p)(hp1:p≤3)(hdf:Y6 B T)(hset:∀c∈iH B T,Vb c.1 (tk B O T p c.1).1){K:Tr×SliceV×Int→ae→Prop}
  (hk0:p=0→tx B O T p≠[]→∀h' s',OwnS vM 7 eE (fun y=>h.size≤y) h' s' ((tx B O T p).map (GJ B O T))→Upd No h h'→K (to,s',8) h')
  (hk:(p=0→tx B O T p= [])→∀h' t' s',TreeIs W h' kind x t' (sY B O T p)→OwnS vM 7 eE (fun y=>h.size≤y) h' s' ((tx B O T p).map (GJ B O T))→Upd No h h'→K (t',s',0) h'):
  HC PG qF [A4 tb,A4 to,A4 tt,.int .i64 p] [.agg [.int .i64,.int .u64,.int .u64,.int .u64,.ptr,.ptr],.c .slice,.c (.int .i64)] K h:=by
 refine G7 tb to tt p ?_;unfold AV cB aU af aH di nv xB pj sQ Fz aO aw Am MK cP cT NU vq FA A6 vA Ba A5 zv pH;refine aS fun h1 b1 k1=>aS fun h2 b2 k2=>aS fun h3 b3 k3=>aS fun h4 b4 k4=>?_
 have z1:=aZ b1;have z2:=aZ b2;have z3:=aZ b3;have z4:=aZ b4;have s1:h.size≤h1.size:=k1.size;have s2:h1.size≤h2.size:=k2.size;have s3:h2.size≤h3.size:=k3.size;have s4:=k4.size;have k04:=((k1.tr k2).tr k3).tr k4;have c0:=k4.get0 (k3.get0 (k2.get0 b1));have c1:=k4.get0 (k3.get0 b2);have c2:=k4.get0 b3;refine MD ?_;rw[gd,decide_eq_false (Gb hp0 hp1)];refine aj.2 ?_
 refine Join.intro (fun t h'=>t=false∧Upd No h4 h') (fun R hR=>?_) ?_
 ·refine⟨_,vc c0 0,_,vc c0 1,_,vc c0 2,_,vc c0 3,_,vc c0 4,_,vc c0 5,_,vc c1 0,_,vc c1 1,_,vc c1 2,_,vc c1 3,_,vc c1 4,_,vc c1 5,?_⟩
  refine xG (t:=tb) (u:=to) fun h5 k5=>?_
  rw[Dh ib io];have d0:=k5.get0 c0;have d2:=k5.get0 c2;refine aj.2 ⟨_,vc d0 0,_,vc d0 1,_,vc d0 2,_,vc d0 3,_,vc d0 4,_,vc d0 5,_,vc d2 0,_,vc d2 1,_,vc d2 2,_,vc d2 3,_,vc d2 4,_,vc d2 5,?_⟩;refine xG (t:=tb) (u:=tt) fun h6 k6=>?_
  rw[Dh ib it];exact hR _ _ ⟨rfl,k5.tr k6⟩
 rintro t h50 ⟨rfl,k50⟩;have d0:=k50.get0 c0;have d1:=k50.get0 c1;have d2:=k50.get0 c2;have d3:=k50.get0 b4;have k050:=k04.tr k50;have s50:=k50.size;have nB:=fB.len;have nO:=fO.len;have nT:=fT.len;refine aj.2 ⟨_,vc d0 0,_,vc d0 1,_,vc d0 2,_,vc d0 3,_,vc d0 4,_,vc d0 5,_,vc d2 0,_,vc d2 1,_,vc d2 2,_,vc d2 3,_,vc d2 4,_,vc d2 5,?_⟩;refine hdf (ib.upd0 k050) (it.upd0 k050) (fun e=>by rw[Dh ib it]at e;cases e) fun _ h77 s77 hs77 k77=>?_
 have lC:=yU fB.up fT.up;have at30:=L7 fB fT;have hcC:∀c∈iH B T,(c.1,(c.2.1,c.2.2.2.1),zq (look O c.1),(c.2.2.1,c.2.2.2.2))=GJ B O T c.1:=fun c hc=>by
  have e:=(UP fB.up fT.up hc).1;unfold GJ zq;rw[congrArg (·.2.1) e,congrArg (·.2.2.1) e,congrArg (·.2.2.2.1) e,congrArg (·.2.2.2.2) e]
 have hsetC:∀i (hi:i<(iH B T).length),Vb (iH B T)[i].1 (tk B O T p (iH B T)[i].1).1:=fun i hi=>hset _ (bw hi)
 have hmem:∀i (hi:i<(iH B T).length),(iH B T)[i]∈iH B T:=fun i hi=>bw hi
 have hconK:Dv B O T p (iH B T)=tx B O T p:=rfl;have hmrg:pF B O T p O (iH B T)=sY B O T p:=rfl;have fM:∀i,Few (no+((iH B T).take i).length) (pF B O T p O ((iH B T).take i)):=fun i=>Gw fB fO fT (fun c hc=>(at30 c (List.mem_of_mem_take hc)).1) fO
 clear hset;generalize iH B T=C at hs77 lC at30 hcC hmem hconK hmrg fM hsetC;have hsl:=hs77.within.sl (W:=fun y=>h77.size≤y) fun y hy _ hw=>by omega
 have hlen:s77.len=C.length:=hs77.len;have e1:=k77.get0 d1;have e3:=k77.get0 d3;have hz77:=k77.size;refine⟨_,vc e1 0,_,vc e1 1,_,vc e1 2,_,vc e1 3,_,vc e1 4,_,vc e1 5,?_⟩;refine xP (t:=to) fun h85 b85 k85=>?_
 have z85:=aZ b85;have s85:=k85.size;have k085:=(k050.tr k77).tr k85;have f1:=k85.get0 e1;have f3:=k85.get0 e3;have hPo:Pro W h h85 h77.size:=.inr (by omega);have hP3:Pro W h h85 h3.size:=.inr (by omega);have hWP:=Pro.lt hW k085;refine LoopP.ghost (fun(g:Nat×(Nat→Prop)) (t:SliceV×Int) h'=>t.2=(g.1:Int)∧g.1≤C.length∧OwnS vM 7 eE g.2 h' t.1 ((Dv B O T p (C.take g.1)).map (GJ B O T))∧(∀y,g.2 y→h85.size≤y∧y<h'.size)∧(∃tv,TreeIs (fun y=>Pro W h h85 y∨g.2 y) h' kind x tv (pF B O T p O (C.take g.1))∧h'[h77.size]? =some (.cells (ly tv).toArray bI (0,0)))∧Upd (· =h77.size) h85 h') (fun g=>C.length-g.1) (0,No)
  ⟨rfl,aW _,OwnS.nil GK,fun _ h=>h.elim,⟨to,(io.pro k085).less fun y hy=>.inl (hy.elim id fun h=>h.elim),b85⟩,Upd.refl _ _⟩ ?_
 rintro I ⟨i,S⟩ ⟨sv,ti⟩ h88 ⟨e,hi,ho,hS,⟨tv,iv,bv⟩,hu⟩ hI;simp only at e hi ho hS iv;subst e;have g1:=hu.get f1 (by show ¬h1.size=h77.size;omega);have g3:=hu.get f3 (by show ¬h3.size=h77.size;omega);have s88:=hu.size;have k088:Upd No h h88:=k085.own hu (by omega);refine az (fun hlt=>?_) fun hge=>?_
 ·have hlt:i<C.length:=by simp only at hlt;omega
  obtain⟨a,ha,_,hv⟩:=((hsl.upd k85 fun _ h=>h.elim).upd hu fun y hy=>.inl (by have hy:y=h77.size:=hy;omega)).at (ag hlt)
  refine⟨⟨by simp only;omega,by simp only;omega⟩,a,ha,_,hv 0 _ rfl,_,hv 1 _ rfl,_,hv 2 _ rfl,_,hv 3 _ rfl,_,hv 4 _ rfl,?_⟩
  have fm:=fM i;have fml:=fm.len;rw[aR]at fml;have hcon:(Dv B O T p (C.take i)).length≤C.length:=bh UM (by rw[aR];omega);have hIc:=fun S' t h'=>hI (i+1,S') t h'
  simp only[MB hlt,SC hlt,cY]at hIc;have hceq:=hcC _ (hmem i hlt);have hc30:=(at30 _ (hmem i hlt)).1;have hsc:= @hsetC i hlt;clear hI;generalize C[i]=c at hv hceq hc30 hIc hsc;refine YL (c:=c) fun h96 b96 k96=>?_
  have s96:=k96.size;have z96:=aZ b96;have p1:=k96.get0 g1;have k096:=k088.tr k96;have ig:∀{h'},Upd No h96 h'→TreeIs W h' kind x to O:=fun k=>io.upd0 (k096.tr k)
  have hWg:∀{h'},Upd No h96 h'→∀y,W y→y<h'.size:=fun k y hy=>aQ (hW y hy) (k096.tr k).size
  refine Join.intro (fun t h'=>∃b,t=⟨b,0,none⟩∧h'[b]? =some (.cells (vM (GJ B O T c.1)).toArray eE (0,0))∧Upd No h96 h') (fun R hR=>?_) ?_
  ·rw[←hceq]at hR
   refine⟨c.1,vc b96 0,c.2.1,vc b96 1,c.2.2.2.1,vc b96 3,_,vc p1 0,_,vc p1 1,_,vc p1 2,_,vc p1 3,_,vc p1 4,_,vc p1 5,c.1,vc b96 0,c.2.2.1,vc b96 2,c.2.2.2.2,vc b96 4,?_,?_⟩
   ·refine QR (ig (Upd.refl _ _)) (hWg (Upd.refl _ _)) fO.up (by omega) c.1 fun h110 k110=>?_
    have q:=k110.get0 b96;refine⟨vc q 4,vc q 2,vc q 3,vc q 1,vc q 0,aS fun h111 b111 k111=>?_⟩
    have q':=k111.get0 q;refine⟨vc q' 4,vc q' 2,vc q' 3,vc q' 1,vc q' 0,?_⟩;refine cO (c:=vM Vz) (vs:=vM (c.1,(c.2.1,c.2.2.2.1),zq (look O c.1),(c.2.2.1,c.2.2.2.2))) b111 rfl fun h112 b112 hu112=>hR _ _ ⟨_,rfl,b112,(k110.tr k111).own hu112 k110.size⟩
   ·refine aS fun h149 b149 k149=>?_
    have q:=k149.get0 b96;have p2:=k149.get0 p1;refine⟨vc q 4,vc q 2,vc q 0,⟨vc p2 0,vc p2 1,vc p2 2,vc p2 3,vc p2 4,vc p2 5⟩,vc q 3,vc q 1,vc q 0,?_⟩;refine QR (ig k149) (hWg k149) fO.up (by omega) c.1 fun h151 k151=>?_
    have q':=k151.get0 q;refine⟨vc q' 4,vc q' 2,vc q' 3,vc q' 1,vc q' 0,?_⟩;refine cO (c:=vM Vz) (vs:=vM (c.1,(c.2.1,c.2.2.2.1),zq (look O c.1),(c.2.2.1,c.2.2.2.2))) (k151.get0 b149) rfl fun h152 b152 hu152=>hR _ _ ⟨_,rfl,b152,(k149.tr k151).own hu152 (aq _)⟩
  rintro _ h142 ⟨bx,rfl,b142,k142⟩;refine⟨_,js b142 1 0,_,js b142 1 1,_,js b142 3 0,_,js b142 3 1,_,js b142 5 0,_,js b142 5 1,?_⟩;refine Uh (b:=zq (look B c.1)) (o:=zq (look O c.1)) (t:=zq (look T c.1)) fun h150 k150=>?_
  rw[Qn];have hok:∀r,rW (look B c.1) (look O c.1) (look T c.1) p=r→tk B O T p c.1=r:=fun r e=>e
  have hsz:((tk B O T p c.1).1.getD ⟨#[]⟩).size≤30:=by
   unfold tk;rcases IP (look B c.1) (look O c.1) (look T c.1) p with e|e|e
   ·rw[e];exact mV fB _
   ·rw[e];exact mV fO _
   ·rw[e];exact mV fT _
  have htk:rW (look B c.1) (look O c.1) (look T c.1) p=tk B O T p c.1:=rfl;rw[htk];generalize tk B O T p c.1=tkc at hIc hsz hsc;refine W7 (s:=zq tkc.1) fun h152 b152 k152=>?_
  have z152:=aZ b152;have k88152:=((k96.tr k142).tr k150).tr k152;have k96152:=(k142.tr k150).tr k152;have s150:h88.size≤h150.size:=((k96.tr k142).tr k150).size;have s152:=k88152.size;have bv152:=k88152.get0 bv;have b96':=k96152.get0 b96;have bx152:=(k150.tr k152).get0 b142;have iv152:=iv.upd0 k88152;refine Join.intro (fun t h'=>∃S',OwnS vM 7 eE S' h' t ((Dv B O T p (C.take i)).map (GJ B O T)++(if tkc.2=true then[]else[c.1]).map (GJ B O T))∧(∀y,S' y→h85.size≤y∧y<h'.size)∧TreeIs (fun y=>Pro W h h85 y∨S' y) h' kind x tv (pF B O T p O (C.take i))∧Upd S h152 h') (fun R hR=>?_) ?_
  ·refine CondP.intro (fun e=>?_) fun e=>?_
   ·have e2:tkc.2=false:=by simpa using e
    rw[e2,if_neg Bool.false_ne_true]at hR;refine⟨_,vc bx152 0,_,vc bx152 1,_,vc bx152 2,_,vc bx152 3,_,vc bx152 4,_,vc bx152 5,_,vc bx152 6,?_⟩;refine JT (c:=GJ B O T c.1) (M:=fun y=>S y∨h152.size≤y) ((ho.upd k88152 fun _ _ h=>h).more fun _ h=>.inl h) (fun _ h=>.inr h) (by rw[cD];omega) fun s163 h164 ho164 hu164=>?_
    have s164:=hu164.size;refine hR _ _ ⟨_,ho164.within,fun y hy=>⟨?_,hy.2⟩,?_,hu164.mono fun y hy=>hy⟩
    ·rcases hy.1 with h|h
     ·exact(hS y h).1
     ·omega
    ·refine TreeIs.less (fun y hy=>?_) ((iv152.less (W':=fun y=>Pro W h h85 y∨(S y∨h152.size≤y)) fun y hy=>?_).updM hu164 fun y hy=>.inl (.inr hy))
     ·exact .inl (hy.imp id fun h=>h.1)
     ·rcases hy with h|h|h
      ·exact .inl (.inl h)
      ·exact .inl (.inr h)
      ·exact .inr h
   ·have e2:tkc.2=true:=by simpa using e
    rw[e2,if_pos rfl,gS,aJ]at hR;exact hR _ _ ⟨S,ho.upd k88152 fun _ _ h=>h,fun y hy=>⟨(hS y hy).1,by have:=(hS y hy).2;omega⟩,iv152,Upd.refl _ _⟩
  rintro sv' h166 ⟨S',ho',hS',it',hu'⟩;have s166:=hu'.size;have nS:∀y,S y→h85.size≤y∧y<h88.size:=hS;have bv166:=hu'.get bv152 fun hx=>by have:=nS _ hx;omega
  have b96'':=hu'.get b96' fun hx=>by have:=nS _ hx;omega
  have b152':=hu'.get b152 fun hx=>by have:=nS _ hx;omega
  refine⟨_,vc bv166 0,_,vc bv166 1,_,vc bv166 2,_,vc bv166 3,_,vc bv166 4,_,vc bv166 5,c.1,vc b96'' 0,(zq tkc.1).1,vc b152' 0,(zq tkc.1).2,vc b152' 1,?_⟩;refine hsc it' (fun y hy=>hy.elim (fun h=>aQ (hWP y h) (by omega)) fun h=>(hS' y h).2) fm.up fm.fits (by omega) (by omega) (by omega) fun h177 t' i177 k177=>?_
  have s177:=k177.size;refine cO (c:=ly tv) (vs:=ly t') (k177.get0 bv166) rfl fun h178 b178 hu178=>?_
  have s178:=hu178.size;simp only;rw[lE hlt (by omega)];refine hIc S' _ _ ⟨rfl,hlt,(ho'.upd k177 fun _ _ h=>h).upd hu178 fun y hy e=>?_,fun y hy=>⟨(hS' y hy).1,by have:=(hS' y hy).2;omega⟩,⟨t',i177.updM hu178 fun y hy=>.inl (.inl (by have hy:y=h77.size:=hy;rw[hy];exact hPo)),b178⟩,?_⟩ (by omega)
  ·have e:y=h77.size:=e
   have:=(hS' y hy).1;omega
  ·refine((hu.tr k88152.wide).trans hu' fun y hy=>.inr (nS y hy).1).tr ?_
   exact k177.wide.tr hu178
 ·have hiN:i=C.length:=by simp only at hge;omega
  subst hiN;rw[cd]at ho iv;rw[hconK]at ho;rw[hmrg]at iv;have hsvl:=ho.len;rw[cD]at hsvl;have hb:(tx B O T p= [])↔sv.len=0:=by rw[hsvl];exact aA.symm
  have ho2:OwnS vM 7 eE (fun y=>h.size≤y∧y≠h3.size) h88 sv ((tx B O T p).map (GJ B O T)):=ho.more fun y hy=>by have:=(hS y hy).1;omega
  refine Join.intro (fun t h'=>t=(decide (p=0)&&decide (sv.len>0))∧h'=h88) (fun R hR=>?_) ?_
  ·refine CondP.intro (fun e=>hR _ _ ⟨?_,rfl⟩) fun e=>hR _ _ ⟨?_,rfl⟩
   ·have e:p=0:=by simpa using e
    rw[decide_eq_true e,mh,decide_eq_decide];simp only;omega
   ·have e:p≠0:=by simpa using e
    rw[decide_eq_false e,Bool.false_and]
  rintro t h' ⟨rfl,rfl⟩;refine CondP.intro (fun e=>?_) fun e=>?_
  ·have e:p=0∧sv.len>0:=by simpa using e
   refine⟨_,vc g1 0,_,vc g1 1,_,vc g1 2,_,vc g1 3,_,vc g1 4,_,vc g1 5,?_⟩;refine cO (c:=ly HL) (vs:=ly to) g3 rfl fun h198 b198 hu198=>?_
   refine⟨_,vc b198 0,_,vc b198 1,_,vc b198 2,_,vc b198 3,_,vc b198 4,_,vc b198 5,?_⟩;exact hk0 e.1 (fun hc=>by have:=hb.1 hc;omega) h198 sv ((ho2.upd hu198 fun y hy e=>hy.2 e).more fun y hy=>hy.1) (k088.own hu198 (by omega))
  ·have e:p=0→sv.len=0:=fun hp=>by
    rw[decide_eq_true hp,mh]at e;have:=of_decide_eq_false e;omega
   refine⟨_,vc bv 0,_,vc bv 1,_,vc bv 2,_,vc bv 3,_,vc bv 4,_,vc bv 5,?_⟩;refine cO (c:=ly HL) (vs:=ly tv) g3 rfl fun h211 b211 hu211=>?_
   refine⟨_,vc b211 0,_,vc b211 1,_,vc b211 2,_,vc b211 3,_,vc b211 4,_,vc b211 5,?_⟩;exact hk (fun hp=>hb.2 (e hp)) h211 tv sv ((iv.updM hu211 fun y hy=>.inl (.inl (by have hy:y=h3.size:=hy;rw[hy];exact hP3))).less fun y hy=>.inl (.inl (.inl hy))) ((ho2.upd hu211 fun y hy e=>hy.2 e).more fun y hy=>hy.1) (k088.own hu211 (by omega))
end Go.Proofs
namespace Go.Proofs
open Go Go.Lift
theorem ni{W:Nat→Prop}{x:Hs}{h:ae}{kind:Int}{r:Rt}{l:List Pr}(i:RefIs W h kind x r l)(hr:bO l)(hf:Fit l)(hn:l.length≤1000000)(k:ByteArray){K:Sd→ae→Prop}(hk:∀h',Upd No h h'→K (zq (look l k)) h'):HC PG lf [NQ r,.string k] [.agg [.str,.bool]] K h:=by
 refine SU r k ?_;unfold JY cx di CM aw nn HJ cT A6 vA;refine aS fun h1 b1 k1=>aS fun h2 b2 k2=>?_
 have k12:=k1.tr k2;obtain⟨s,rfl,hs,_⟩:=i;refine⟨s,vc (k2.get0 b1) 4,?_⟩;refine V6 (hs.upd k12 fun _ h=>h.elim) hr hf hn k fun v h1' h2'=>?_
 have e:zq (look l k)=(v,dX l k):=QS hr h1' h2';rw[e]at hk;refine cO (c:= [.string (⟨#[]⟩:ByteArray),.bool false]) (vs:=XB (v,dX l k)) b2 rfl fun h4 b4 hu4=>?_
 exact⟨_,vc b4 0,_,vc b4 1,hk h4 (k12.own hu4 k1.size)⟩
def EQ(a l:List Pr):List Pr:=l.foldl (fun a p=>gC p a) a
theorem yK{a l:List Pr}{i:Nat}(hi:i<l.length):EQ a (l.take (i+1))=gC l[i] (EQ a (l.take i)):=by
 unfold EQ;rw[bo hi,qh];rfl
theorem wz:∀{l a:List Pr},bO a→bO (EQ a l)
 | [],_,h=>h
 |p::l,_,h=>wz (l:=l) (sN p h)
theorem yN{k:ByteArray}:∀{l a:List Pr},(look (EQ a l) k).isSome=((look a k).isSome||(look l k).isSome)
 | [],a=>by rw[MF];simp[EQ]
 |p::l,a=>by
  show(look (EQ (gC p a) l) k).isSome=_
  rw[yN,Ge,fc];split
  ·simp
  ·rfl
def xE(B O T:List Pr):List Pr:=EQ (EQ (EQ [] B) O) T
theorem xM{B O T:List Pr}:bO (xE B O T):=wz (wz (wz ee))
theorem Gd{B O T:List Pr}{k:ByteArray}(h:(look (xE B O T) k).isSome=false):look B k=none∧look O k=none∧look T k=none:=by
 unfold xE at h;rw[yN,yN,yN,MF]at h;simpa[and_assoc]using h
def GE(B O T:List Pr)(p:Int)(l:List Pr):List ByteArray:=(l.map (·.1)).filter fun k=> !(tk B O T p k).2
def Aj(B O T:List Pr)(p:Int)(l:List Pr):List Pr:=l.filterMap fun q=>(tk B O T p q.1).1.map fun v=>(q.1,v)
theorem SB{B O T:List Pr}{p:Int}{l:List Pr}{i:Nat}(hi:i<l.length):GE B O T p (l.take (i+1))=GE B O T p (l.take i)++if(tk B O T p l[i].1).2 then[]else[l[i].1]:=by
 unfold GE;rw[bo hi,cY,List.filter_append];congr 1
 rw[List.map_singleton,List.filter_cons,List.filter_nil];cases(tk B O T p l[i].1).2<;>rfl
def W5(k:ByteArray)(o:Option ByteArray):List Pr:=(o.map fun v=>(k,v)).toList
theorem Sf{B O T:List Pr}{p:Int}{l:List Pr}{i:Nat}(hi:i<l.length):Aj B O T p (l.take (i+1))=Aj B O T p (l.take i)++W5 l[i].1 (tk B O T p l[i].1).1:=by
 unfold Aj W5;rw[bo hi,List.filterMap_append];congr 1
theorem UL{B O T:List Pr}{p:Int}{l:List Pr}:(GE B O T p l).length≤l.length:=bh (List.length_filter_le ..) (Nat.le_of_eq (cD ..))
theorem Ud{B O T:List Pr}{p:Int}{l:List Pr}:(Aj B O T p l).length≤l.length:=List.length_filterMap_le ..
theorem Uc{B O T:List Pr}{p:Int}:∀{l:List Pr} {q:Pr},q∈Aj B O T p l→∃r∈l,r.1=q.1:=by
 intro l q h;obtain⟨r,hr,e⟩:=List.mem_filterMap.1 h;refine⟨r,hr,?_⟩;cases ho:(tk B O T p r.1).1 with
 |none=>rw[ho]at e;cases e
 |some v=>rw[ho]at e;cases e;rfl
theorem FY{B O T:List Pr}{p:Int}:∀{l:List Pr},bO l→bO (Aj B O T p l)
 | [],_=>ee
 |q::l,h=>by
  have h:=aD.1 h;have ih:=FY (B:=B) (O:=O) (T:=T) (p:=p) h.2;unfold Aj at ih⊢;rw[kY];split
  ·exact ih
  ·rename_i b e
   cases ho:(tk B O T p q.1).1 with
   |none=>rw[ho]at e;cases e
   |some v=>
    rw[ho]at e;cases e;refine aD.2 ⟨fun r hr=>?_,ih⟩
    obtain⟨r',hr',e'⟩:=Uc hr;show kl q.1 r.1
    rw[←e'];exact h.1 r' hr'
theorem Jo{B O T:List Pr}{p:Int}{k:ByteArray}:∀{l:List Pr},bO l→look (Aj B O T p l) k=if(look l k).isSome then(tk B O T p k).1 else none
 | [],_=>rfl
 |q::l,h=>by
  have h':=aD.1 h;have ih:=Jo (B:=B) (O:=O) (T:=T) (p:=p) (k:=k) h'.2;rw[fc];by_cases e:q.1=k
  ·subst e
   rw[if_pos rfl];have hn:look l q.1=none:=xS h'.1;rw[hn]at ih;show look (Aj B O T p (q::l)) q.1=(tk B O T p q.1).1
   unfold Aj at ih⊢;rw[kY];cases ho:(tk B O T p q.1).1 with
   |none=>exact ih
   |some v=>show look ((q.1,v)::_) q.1=_;rw[fc,if_pos rfl]
  ·rw[if_neg e,←ih]
   unfold Aj;rw[kY];cases ho:(tk B O T p q.1).1 with
   |none=>rfl
   |some v=>show look ((q.1,v)::_) k=_;rw[fc,if_neg e]
theorem OI{B O T:List Pr}{p:Int}(hB:bO B)(hO:bO O)(hT:bO T):Aj B O T p (xE B O T)=sY B O T p:=by
 refine Ul (FY xM) (Bk hO) fun k=>?_
 rw[Jo xM,OO hB hT];cases hk:(look (xE B O T) k).isSome with
 |true=>rfl
 |false=>
  obtain⟨e1,e2,e3⟩:=Gd hk;unfold tk rW;rw[e1,e2,e3];rfl
theorem Pi{B O T:List Pr}{p:Int}(hB:bO B)(hT:bO T):GE B O T p (xE B O T)=tx B O T p:=by
 have hU:=xM (B:=B) (O:=O) (T:=T);refine MI ?_ (VE hB hT) fun k=>?_
 ·unfold GE
  exact List.Pairwise.sublist List.filter_sublist (List.pairwise_map.2 hU)
 ·rw[Ug hB hT]
  unfold GE;rw[List.mem_filter];refine⟨fun h=>by simpa using h.2,fun h=>⟨?_,by rw[h];rfl⟩⟩
  cases hk:look (xE B O T) k with
  |some v=>exact List.mem_map.2 ⟨_,ri hk,rfl⟩
  |none=>
   obtain⟨e1,e2,e3⟩:=Gd (B:=B) (O:=O) (T:=T) (k:=k) (by rw[hk];rfl);unfold tk at h;exact absurd (e2.trans e3.symm) (LX.1 h).1
theorem Gg{W W':Nat→Prop}{h h':ae}{kind:Int}{x:Hs}{r q:Rt}{l l':List Pr}(j:RefIs W h kind x r l)(j':RefIs W' h' kind x q l'):BA r q=true:=by
 obtain⟨s,rfl,_⟩:=j;obtain⟨s',rfl,_⟩:=j';simp[BA]
end Go.Proofs
namespace Go.Proofs
open Go Go.Lift
set_option maxHeartbeats 1000000 in
theorem T3{W:Nat→Prop}{x:Hs}{h:ae}{kind p:Int}{rb ro rt:Rt}{B O T:List Pr}{nb no nt:Nat}(jb:RefIs W h kind x rb B)(jo:RefIs W h kind x ro O)(jt:RefIs W h kind x rt T)(hW:∀y,W y→y<h.size)(fB:Few nb B)(fO:Few no O)(fT:Few nt T)(lb:nb≤1000)(lo:no≤1000)(lt:nt≤1000)
  (hp0:0≤p)(hp1:p≤3){K:Rt×SliceV×Int→ae→Prop}
  (hk0:p=0→tx B O T p≠[]→∀h' s',Sl vM 7 No h' s' ((tx B O T p).map (GJ B O T))→Upd No h h'→K (ro,s',8) h')
  (hk:(p=0→tx B O T p= [])→∀h' r' s',RefIs W h' kind x r' (sY B O T p)→Sl vM 7 No h' s' ((tx B O T p).map (GJ B O T))→Upd No h h'→K (r',s',0) h'):
  HC PG yf [NQ rb,NQ ro,NQ rt,.int .i64 p] [.agg [.int .i64,.int .u64,.int .u64,.int .u64,.slice],.c .slice,.c (.int .i64)] K h:=by
 refine Nk rb ro rt p ?_;unfold Hi cB aU zr af cM cx bR di nv HH CM CR Yl LS aO aw kZ ij dS qn cP cT FA A6 vA Ba A5 zv pH;refine aS fun h1 b1 k1=>aS fun h2 b2 k2=>aS fun h3 b3 k3=>aS fun h4 b4 k4=>?_
 have z1:=aZ b1;have z2:=aZ b2;have z3:=aZ b3;have z4:=aZ b4;have s1:h.size≤h1.size:=k1.size;have s2:h1.size≤h2.size:=k2.size;have s3:h2.size≤h3.size:=k3.size;have s4:=k4.size;have k04:=((k1.tr k2).tr k3).tr k4;have c0:=k4.get0 (k3.get0 (k2.get0 b1));have c1:=k4.get0 (k3.get0 b2);have c2:=k4.get0 b3;refine Join.intro (fun t h'=>t=false∧h'=h4) (fun R hR=>?_) ?_
 ·refine az (fun e=>absurd e (by omega)) fun _=>hR _ _ ⟨decide_eq_false (by omega),rfl⟩
 rintro _ h7 ⟨rfl,e7⟩;rw[e7];refine aj.2 ?_;refine Join.intro (fun t h'=>t=false∧Upd No h4 h') (fun R hR=>?_) ?_
 ·refine⟨_,vc c0 0,_,vc c0 1,_,vc c0 2,_,vc c0 3,rb.2.2.2.2,vc c0 4,_,vc c1 0,_,vc c1 1,_,vc c1 2,_,vc c1 3,ro.2.2.2.2,vc c1 4,?_⟩
  refine Bp (r:=rb) (q:=ro) fun h5 k5=>?_
  rw[Gg jb jo];have d0:=k5.get0 c0;have d2:=k5.get0 c2;refine aj.2 ⟨_,vc d0 0,_,vc d0 1,_,vc d0 2,_,vc d0 3,rb.2.2.2.2,vc d0 4,_,vc d2 0,_,vc d2 1,_,vc d2 2,_,vc d2 3,rt.2.2.2.2,vc d2 4,?_⟩;refine Bp (r:=rb) (q:=rt) fun h6 k6=>?_
  rw[Gg jb jt];exact hR _ _ ⟨rfl,k5.tr k6⟩
 rintro t h45 ⟨rfl,k45⟩;have d0:=k45.get0 c0;have d1:=k45.get0 c1;have d2:=k45.get0 c2;have d3:=k45.get0 b4;have k045:=k04.tr k45;have s45:=k45.size;have nB:=fB.len;have nO:=fO.len;have nT:=fT.len;refine aj.2 ⟨_,vc d0 0,_,vc d0 1,_,vc d0 2,_,vc d0 3,rb.2.2.2.2,vc d0 4,_,vc d1 0,_,vc d1 1,_,vc d1 2,_,vc d1 3,ro.2.2.2.2,vc d1 4,_,vc d2 0,_,vc d2 1,_,vc d2 2,_,vc d2 3,rt.2.2.2.2,vc d2 4,?_⟩;refine aS fun h72 b72 k72=>?_
 have s72:=k72.size;have k072:=k045.tr k72;have hrow:∀i,i<3→∃r l,[B,O,T][i]? =some l∧RefIs W h kind x r l∧(l.length≤1000∧Few l.length l)∧∀h',Upd No h72 h'→aP h' (adr (adr (aE h45) (i*5)) 0)=some (.int .i64 r.1)∧aP h' (adr (adr (aE h45) (i*5)) 1)=some (.int .u64 r.2.1)∧aP h' (adr (adr (aE h45) (i*5)) 2)=some (.int .u64 r.2.2.1)∧aP h' (adr (adr (aE h45) (i*5)) 3)=some (.int .u64 r.2.2.2.1)∧aP h' (adr (adr (aE h45) (i*5)) 4)=some (.slice r.2.2.2.2.a r.2.2.2.2.len r.2.2.2.2.cap):=fun i hi=>by
  have hi:i=0∨i=1∨i=2:=by omega
  rcases hi with rfl|rfl|rfl
  ·exact⟨rb,B,rfl,jb,⟨by omega,fB.up,aq _,fB.fit⟩,fun h' k'=>have q:=k'.get0 b72;⟨js q (0*5) 0,js q (0*5) 1,js q (0*5) 2,js q (0*5) 3,js q (0*5) 4⟩⟩
  ·exact⟨ro,O,rfl,jo,⟨by omega,fO.up,aq _,fO.fit⟩,fun h' k'=>have q:=k'.get0 b72;⟨js q (1*5) 0,js q (1*5) 1,js q (1*5) 2,js q (1*5) 3,js q (1*5) 4⟩⟩
  ·exact⟨rt,T,rfl,jt,⟨by omega,fT.up,aq _,fT.fit⟩,fun h' k'=>have q:=k'.get0 b72;⟨js q (2*5) 0,js q (2*5) 1,js q (2*5) 2,js q (2*5) 3,js q (2*5) 4⟩⟩
 refine LoopP.ghost (fun(i:Nat) (t:SliceV×Int) h'=>t.2=(i:Int)∧i≤3∧(∃acc,acc=([B,O,T].take i).foldl EQ []∧Sl eg 2 No h' t.1 acc∧bO acc∧acc.length≤i*1000∧∀q∈acc,q.1.size≤30)∧Upd No h72 h') (fun i=>3-i) 0 ⟨rfl,aW _,⟨[],rfl,Sl.nil fk,ee,aW _,fun _ h=>(by cases h)⟩,Upd.refl _ _⟩ ?_
 rintro I i ⟨sa,ti⟩ h75 ⟨e,hi,⟨acc,eacc,hs,hra,hla,hka⟩,hu⟩ hI;simp only at e hs;subst e;refine az (fun hlt=>?_) fun hge=>?_
 ·have hlt:i<3:=by simp only at hlt;omega
  obtain⟨r,l,el,⟨s,er,hl,_⟩,⟨ln,fl⟩,hc⟩:=hrow i hlt;obtain⟨e0,e1,e2,e3,e4⟩:=hc h75 hu;subst er;refine⟨⟨by simp only;omega,by simp only;omega⟩,_,rfl,_,e0,_,e1,_,e2,_,e3,s,e4,?_⟩
  refine QM (r:=(kind,hx kind x.k0,hx kind x.k1,hx kind x.mask,s)) fun h83 b83 k83=>⟨s,vc b83 4,?_⟩
  have k083:=(k072.tr hu).tr k83;have hll:=hl.len;refine LoopP.ghost (fun(q:Nat) (t:SliceV×Int) h'=>t.2=(q:Int)∧q≤l.length∧(∃ac2,ac2=EQ acc (l.take q)∧Sl eg 2 No h' t.1 ac2∧bO ac2∧ac2.length≤acc.length+q∧∀q∈ac2,q.1.size≤30)∧Upd No h83 h') (fun q=>l.length-q) 0 ⟨rfl,aW _,⟨acc,rfl,hs.upd k83 fun _ h=>h.elim,hra,aq _,hka⟩,Upd.refl _ _⟩ ?_
  rintro I2 q ⟨sb,tq⟩ h87 ⟨e,hq,⟨ac2,eac2,hsb,hra2,hla2,hka2⟩,hu2⟩ hI2;simp only at e hsb;subst e;refine az (fun hlq=>?_) fun hgq=>?_
  ·have hlq:q<l.length:=by simp only at hlq;omega
   obtain⟨a,ha,_,hv⟩:=(hl.upd (k083.tr hu2) fun _ h=>h.elim).at (ag hlq)
   refine⟨⟨by simp only;omega,by simp only;omega⟩,a,ha,l[q].1,hv 0 _ rfl,l[q].2,hv 1 _ rfl,?_⟩
   have f30:=fl.fit _ (bw hlq);refine qo (p:=l[q]) fun h92 b92 k92=>⟨_,vc b92 0,_,vc b92 1,?_⟩
   refine QB (p:=l[q]) (hsb.upd k92 fun _ h=>h.elim) hra2 (by omega) (by omega) fun s' h96 ho96 k96=>?_
   have hl1:=yP l[q] (l:=ac2);simp only;rw[lE hlq (by omega)];refine hI2 (q+1) _ _ ⟨rfl,hlq,⟨_,rfl,?_,?_,?_,?_⟩,(hu2.tr k92).tr k96⟩ (by omega)
   ·rw[yK hlq,←eac2];exact ho96.sl fun _ _ _ h=>h
   ·rw[yK hlq,←eac2];exact sN _ hra2
   ·rw[yK hlq,←eac2];omega
   ·rw[yK hlq,←eac2]
    intro q' hq';rcases xQ hq' with rfl|hq'
    ·exact f30.1
    ·exact hka2 q' hq'
  ·have hql:q=l.length:=by simp only at hgq;omega
   subst hql;rw[cd]at eac2;simp only;rw[lE hlt (by omega)];refine hI (i+1) _ _ ⟨rfl,hlt,⟨ac2,?_,hsb,hra2,by omega,hka2⟩,(hu.tr k83).tr hu2⟩ (by omega)
   rw[List.take_add_one,el,qh,←eacc];exact eac2
 ·have hi3:i=3:=by simp only at hge;omega
  subst hi3;have eacc:acc=xE B O T:=eacc;have hU:bO acc:=hra;have u75:=k72.tr hu;have g0:=u75.get0 d0;have g1:=u75.get0 d1;have g2:=u75.get0 d2;have g3:=u75.get0 d3;have k075:=k045.tr u75;have s75:=u75.size;have jo':=jo;obtain⟨so,er,_,_⟩:=jo';subst er;refine⟨_,vc g1 0,_,vc g1 1,_,vc g1 2,_,vc g1 3,so,vc g1 4,?_⟩;refine QM (r:=(kind,hx kind x.k0,hx kind x.k1,hx kind x.mask,so)) fun h103 b103 k103=>?_
  have s103:=k103.size;have z103:=aZ b103;refine uU (i:=4) (c':=(nU (kind,hx kind x.k0,hx kind x.k1,hx kind x.mask,⟨none,0,0⟩)).toArray) b103 (show 4<5 by decide) rfl fun h104 b104 hu104=>?_
  have k104:Upd No h75 h104:=k103.own hu104 (aq _);have s104:=k104.size;have z104:=aZ b104;have hlen:=hs.len;have hM:Aj B O T p acc=sY B O T p:=by rw[eacc];exact OI fB.up fO.up fT.up
  have hC:GE B O T p acc=tx B O T p:=by rw[eacc];exact Pi fB.up fT.up
  clear eacc hI;have hsU:Sl eg 2 (fun y=>h75.size≤y) h104 sa acc:=(hs.less fun b hb=>.inr hb).upd k104 fun _ h=>h.elim
  refine LoopP.ghost (fun(g:Nat×(Nat→Prop)×(Nat→Prop)) (t:SliceV×Int) h2=>t.2=(g.1:Int)∧g.1≤acc.length∧OwnS vM 7 fZ g.2.1 h2 t.1 ((GE B O T p (acc.take g.1)).map (GJ B O T))∧(∃sv,OwnS eg 2 bS g.2.2 h2 sv (Aj B O T p (acc.take g.1))∧h2[h75.size]? =some (.cells (nU (kind,hx kind x.k0,hx kind x.k1,hx kind x.mask,sv)).toArray cG (0,0)))∧(∀y,g.2.1 y→h104.size≤y∧y<h2.size∧¬g.2.2 y)∧(∀y,g.2.2 y→h104.size≤y∧y<h2.size)∧Upd (· =h75.size) h104 h2) (fun g=>acc.length-g.1) (0,No,No)
   ⟨rfl,aW _,OwnS.nil GK,⟨⟨none,0,0⟩,OwnS.nil fk,b104⟩,fun _ h=>h.elim,fun _ h=>h.elim,Upd.refl _ _⟩ ?_
  rintro I3 ⟨q,S1,S2⟩ ⟨sc,tq⟩ h107 ⟨e,hq,hoc,⟨sv,hov,bv⟩,hS1,hS2,hu3⟩ hI3;simp only at e hq hoc hov hS1 hS2;subst e;have s107:=hu3.size;have hn:∀{b:Nat},b<h75.size→¬b=h75.size:=fun h e=>by omega
  have q0:=hu3.get (k104.get0 g0) (hn (by omega));have q1:=hu3.get (k104.get0 g1) (hn (by omega));have q2:=hu3.get (k104.get0 g2) (hn (by omega));have q3:=hu3.get (k104.get0 g3) (hn (by omega));have k0107:Upd No h h107:=(k075.tr k104).own hu3 (by omega);refine az (fun hlq=>?_) fun hgq=>?_
  ·have hlq:q<acc.length:=by simp only at hlq;omega
   obtain⟨a,ha,_,hv⟩:=(hsU.upd hu3 fun y hy=>.inl (by have hy:y=h75.size:=hy;show h75.size≤y;omega)).at (ag hlq)
   have hcl:=UL (B:=B) (O:=O) (T:=T) (p:=p) (l:=acc.take q);have hol:=Ud (B:=B) (O:=O) (T:=T) (p:=p) (l:=acc.take q);rw[aR]at hcl hol;refine Join.intro (fun t h2=>∃S1' S2',OwnS vM 7 fZ S1' h2 t ((GE B O T p (acc.take (q+1))).map (GJ B O T))∧(∃sv,OwnS eg 2 bS S2' h2 sv (Aj B O T p (acc.take (q+1)))∧h2[h75.size]? =some (.cells (nU (kind,hx kind x.k0,hx kind x.k1,hx kind x.mask,sv)).toArray cG (0,0)))∧(∀y,S1' y→h104.size≤y∧y<h2.size∧¬S2' y)∧(∀y,S2' y→h104.size≤y∧y<h2.size)∧Upd (· =h75.size) h104 h2) (fun R hR=>⟨⟨by simp only;omega,by simp only;omega⟩,a,ha,acc[q].1,hv 0 _ rfl,acc[q].2,hv 1 _ rfl,?_⟩) ?_
   ·rw[SB hlq,Sf hlq,cY]at hR
    have hk30:=hka _ (bw hlq);generalize acc[q]=c at hR hk30⊢;obtain⟨k,v⟩:=c;simp only at hR hk30;refine qo (p:=(k,v)) fun h113 b113 k113=>?_
    have s113:=k113.size;have z113:=aZ b113;have r0:=k113.get0 q0;have r1:=k113.get0 q1;have r2:=k113.get0 q2;have k0113:=k0107.tr k113;have hB:Fit B:=fB.fits;have hO:Fit O:=fO.fits;have hT:Fit T:=fT.fits;refine Join.intro (fun t h2=>∃b,t=⟨b,0,none⟩∧h2[b]? =some (.cells (vM (GJ B O T k)).toArray fZ (0,0))∧Upd No h113 h2) (fun R2 hR2=>?_) ?_
    ·refine⟨k,vc b113 0,_,vc r0 0,_,vc r0 1,_,vc r0 2,_,vc r0 3,rb.2.2.2.2,vc r0 4,k,vc b113 0,_,vc r1 0,_,vc r1 1,_,vc r1 2,_,vc r1 3,so,vc r1 4,k,vc b113 0,_,vc r2 0,_,vc r2 1,_,vc r2 2,_,vc r2 3,rt.2.2.2.2,vc r2 4,k,vc b113 0,?_,?_⟩
     ·refine ni (jb.upd0 k0113) fB.up hB (by omega) k fun h183 k183=>?_
      have b183:=k183.get0 b113;have p1:=k183.get0 r1;have p2:=k183.get0 r2;refine⟨vc b183 0,⟨vc p2 0,vc p2 1,vc p2 2,vc p2 3,vc p2 4⟩,vc b183 0,⟨vc p1 0,vc p1 1,vc p1 2,vc p1 3,vc p1 4⟩,vc b183 0,?_,?_⟩
      ·refine ni (jo.upd0 (k0113.tr k183)) fO.up hO (by omega) k fun h185 k185=>?_
       have b185:=k185.get0 b183;have p2:=k185.get0 p2;have u185:=k183.tr k185;refine⟨vc b185 0,⟨vc p2 0,vc p2 1,vc p2 2,vc p2 3,vc p2 4⟩,vc b185 0,?_,?_⟩
       ·refine ni (jt.upd0 (k0113.tr u185)) fT.up hT (by omega) k fun h187 k187=>?_
        have u187:=u185.tr k187;refine⟨vc (k187.get0 b185) 0,aS fun h188 b188 k188=>⟨vc (k188.get0 (k187.get0 b185)) 0,?_⟩⟩
        exact cO (c:=vM Vz) (vs:=vM (GJ B O T k)) b188 rfl fun h189 b189 hu189=>hR2 _ _ ⟨_,rfl,b189,(u187.tr k188).own hu189 u187.size⟩
       ·refine aS fun h190 b190 k190=>?_
        have b190':=k190.get0 b185;have p2:=k190.get0 p2;have u190:=u185.tr k190;refine⟨vc b190' 0,⟨vc p2 0,vc p2 1,vc p2 2,vc p2 3,vc p2 4⟩,vc b190' 0,?_⟩;refine ni (jt.upd0 (k0113.tr u190)) fT.up hT (by omega) k fun h192 k192=>?_
        refine⟨vc (k192.get0 b190') 0,?_⟩;exact cO (c:=vM Vz) (vs:=vM (GJ B O T k)) (k192.get0 b190) rfl fun h189 b189 hu189=>hR2 _ _ ⟨_,rfl,b189,(u190.tr k192).own hu189 u185.size⟩
      ·refine aS fun h194 b194 k194=>?_
       have b194':=k194.get0 b183;have p1:=k194.get0 p1;have p2:=k194.get0 p2;have u194:=k183.tr k194;refine⟨vc b194' 0,⟨vc p2 0,vc p2 1,vc p2 2,vc p2 3,vc p2 4⟩,vc b194' 0,⟨vc p1 0,vc p1 1,vc p1 2,vc p1 3,vc p1 4⟩,vc b194' 0,?_⟩;refine ni (jo.upd0 (k0113.tr u194)) fO.up hO (by omega) k fun h196 k196=>?_
       have b196':=k196.get0 b194';have b196:=k196.get0 b194;have p2:=k196.get0 p2;have u196:=u194.tr k196;refine⟨vc b196' 0,⟨vc p2 0,vc p2 1,vc p2 2,vc p2 3,vc p2 4⟩,vc b196' 0,?_⟩;refine ni (jt.upd0 (k0113.tr u196)) fT.up hT (by omega) k fun h198 k198=>?_
       refine⟨vc (k198.get0 b196') 0,?_⟩;exact cO (c:=vM Vz) (vs:=vM (GJ B O T k)) (k198.get0 b196) rfl fun h189 b189 hu189=>hR2 _ _ ⟨_,rfl,b189,(u196.tr k198).own hu189 k183.size⟩
     ·refine aS fun h200 b200 k200=>?_
      have b200':=k200.get0 b113;have p0:=k200.get0 r0;have p1:=k200.get0 r1;have p2:=k200.get0 r2;refine⟨vc b200' 0,⟨vc p2 0,vc p2 1,vc p2 2,vc p2 3,vc p2 4⟩,vc b200' 0,⟨vc p1 0,vc p1 1,vc p1 2,vc p1 3,vc p1 4⟩,vc b200' 0,⟨vc p0 0,vc p0 1,vc p0 2,vc p0 3,vc p0 4⟩,vc b200' 0,?_⟩;refine ni (jb.upd0 (k0113.tr k200)) fB.up hB (by omega) k fun h202 k202=>?_
      have b202':=k202.get0 b200';have b202:=k202.get0 b200;have p1:=k202.get0 p1;have p2:=k202.get0 p2;have u202:=k200.tr k202;refine⟨vc b202' 0,⟨vc p2 0,vc p2 1,vc p2 2,vc p2 3,vc p2 4⟩,vc b202' 0,⟨vc p1 0,vc p1 1,vc p1 2,vc p1 3,vc p1 4⟩,vc b202' 0,?_⟩;refine ni (jo.upd0 (k0113.tr u202)) fO.up hO (by omega) k fun h204 k204=>?_
      have b204':=k204.get0 b202';have b204:=k204.get0 b202;have p2:=k204.get0 p2;have u204:=u202.tr k204;refine⟨vc b204' 0,⟨vc p2 0,vc p2 1,vc p2 2,vc p2 3,vc p2 4⟩,vc b204' 0,?_⟩;refine ni (jt.upd0 (k0113.tr u204)) fT.up hT (by omega) k fun h206 k206=>?_
      refine⟨vc (k206.get0 b204') 0,?_⟩;exact cO (c:=vM Vz) (vs:=vM (GJ B O T k)) (k206.get0 b204) rfl fun h189 b189 hu189=>hR2 _ _ ⟨_,rfl,b189,(u204.tr k206).own hu189 (aq _)⟩
    rintro _ h142 ⟨bx,rfl,b142,k142⟩;refine⟨_,js b142 1 0,_,js b142 1 1,_,js b142 3 0,_,js b142 3 1,_,js b142 5 0,_,js b142 5 1,?_⟩;refine TW (b:=zq (look B k)) (o:=zq (look O k)) (t:=zq (look T k)) fun h150 k150=>?_
    rw[Qn];have htk:rW (look B k) (look O k) (look T k) p=tk B O T p k:=rfl;rw[htk];generalize tk B O T p k=tkc at hR;refine W7 (s:=zq tkc.1) fun h152 b152 k152=>?_
    have z152:=aZ b152;have u152:=(k142.tr k150).tr k152;have u107:=k113.tr u152;have s152:=u107.size;have s150:h113.size≤h150.size:=(k142.tr k150).size;have b113':=u152.get0 b113;have bx152:=(k150.tr k152).get0 b142;have bv152:=u107.get0 bv;refine Join.intro (fun t h2=>∃S1',OwnS vM 7 fZ S1' h2 t ((GE B O T p (acc.take q)).map (GJ B O T)++(if tkc.2=true then[]else[k]).map (GJ B O T))∧(∀y,S1' y→h104.size≤y∧y<h2.size∧¬S2 y)∧(∀y,S1' y→S1 y∨h152.size≤y)∧Upd S1' h152 h2) (fun R3 hR3=>?_) ?_
    ·refine CondP.intro (fun e=>?_) fun e=>?_
     ·have e2:tkc.2=false:=by simpa using e
      rw[e2,if_neg Bool.false_ne_true]at hR3;refine⟨_,vc bx152 0,_,vc bx152 1,_,vc bx152 2,_,vc bx152 3,_,vc bx152 4,_,vc bx152 5,_,vc bx152 6,?_⟩;refine JT (c:=GJ B O T k) (M:=fun y=>S1 y∨h152.size≤y) ((hoc.upd u107 fun _ _ h=>h).more fun _ h=>.inl h) (fun _ h=>.inr h) (by rw[cD];omega) fun s163 h164 ho164 hu164=>?_
      have s164:=hu164.size;refine hR3 _ _ ⟨_,ho164.within,fun y hy=>⟨?_,hy.2,fun h2=>?_⟩,fun y hy=>hy.1,?_⟩
      ·rcases hy.1 with h|h
       ·exact(hS1 y h).1
       ·omega
      ·rcases hy.1 with h|h
       ·exact(hS1 y h).2.2 h2
       ·have:=(hS2 y h2).2;omega
      ·exact hu164.mono fun y hy=>hy.elim (fun h=>.inl ⟨.inl h,by have:=(hS1 y h).2.1;omega⟩) .inr
     ·have e2:tkc.2=true:=by simpa using e
      rw[e2,if_pos rfl,gS,aJ]at hR3;exact hR3 _ _ ⟨S1,hoc.upd u107 fun _ _ h=>h,fun y hy=>⟨(hS1 y hy).1,by have:=(hS1 y hy).2.1;omega,(hS1 y hy).2.2⟩,fun y hy=>.inl hy,Upd.refl _ _⟩
    rintro sc' h164 ⟨S1',hoc',hS1',hS1n,hu164⟩;have s164:=hu164.size;have nS:∀{b:Nat},b<h104.size∨(h107.size≤b∧b<h152.size)→¬S1' b:=fun{b} hb hb'=>by
     have h1:=(hS1' b hb').1;rcases hS1n b hb' with h|h
     ·have:=(hS1 b h).2.1;omega
     ·omega
    have b152':=hu164.get b152 (nS (by omega));have b113'':=hu164.get b113' (nS (by omega));have bv164:=hu164.get bv152 (nS (by omega));have hov164:=(hov.upd u107 fun _ _ h=>h).upd hu164 fun y hy h1=>(hS1' y h1).2.2 hy
    have hu104:Upd (· =h75.size) h104 h164:=(hu3.tr u107.wide).trans hu164 fun y hy=>.inr (hS1' y hy).1
    refine⟨(zq tkc.1).2,vc b152' 1,?_⟩;cases hc1:tkc.1 with
    |none=>
     rw[hc1]at hR;refine aj.2 (hR _ _ ⟨S1',S2,hoc',⟨sv,?_,bv164⟩,hS1',fun y hy=>⟨(hS2 y hy).1,by have:=(hS2 y hy).2;omega⟩,hu104⟩)
     show OwnS eg 2 bS S2 h164 sv (_++ [])
     rw[aJ];exact hov164
    |some w=>
     rw[hc1]at hR;rw[hc1]at b152';refine ay.2 ⟨sv,vc bv164 4,k,vc b113'' 0,w,vc b152' 0,bE ?_⟩;refine tE (p:=(k,w)) (M:=fun y=>S2 y∨h164.size≤y) (hov164.more fun _ h=>.inl h) (fun _ h=>.inr h) (by omega) fun s171 h172 ho172 hu172=>?_
     have s172:=hu172.size;have nS2:¬(S2 h75.size∨h164.size≤h75.size):=fun h=>by
      rcases h with h|h
      ·have:=(hS2 _ h).1;omega
      ·omega
     refine uU (i:=4) (c':=(nU (kind,hx kind x.k0,hx kind x.k1,hx kind x.mask,s171)).toArray) (hu172.get bv164 nS2) (show 4<5 by decide) rfl fun h173 b173 hu173=>?_
     have s173:=hu173.size;refine hR _ _ ⟨S1',fun y=>(S2 y∨h164.size≤y)∧y<h172.size,(hoc'.upd hu172 fun y hy h2=>?_).upd hu173 fun y hy e=>?_,⟨s171,ho172.within.upd hu173 fun y hy e=>?_,b173⟩,fun y hy=>⟨(hS1' y hy).1,by have:=(hS1' y hy).2.1;omega,fun h2=>?_⟩,fun y hy=>⟨?_,by omega⟩,?_⟩
     ·rcases h2 with h2|h2
      ·exact(hS1' y hy).2.2 h2
      ·have:=(hS1' y hy).2.1;omega
     ·have e:y=h75.size:=e
      have:=(hS1' y hy).1;omega
     ·have e:y=h75.size:=e
      exact nS2 (e▸hy.1)
     ·rcases h2.1 with h2|h2
      ·exact(hS1' y hy).2.2 h2
      ·have:=(hS1' y hy).2.1;omega
     ·rcases hy.1 with h|h
      ·exact(hS2 y h).1
      ·omega
     ·refine(hu104.trans hu172 fun y hy=>.inr ?_).tr hu173
      rcases hy with h|h
      ·exact(hS2 y h).1
      ·omega
   ·rintro sc' h2 ⟨S1',S2',hoc',hex,hS1',hS2',hu'⟩
    simp only;rw[lE hlq (by omega)];exact hI3 (q+1,S1',S2') _ _ ⟨rfl,hlq,hoc',hex,hS1',hS2',hu'⟩ (by show acc.length-(q+1)<acc.length-q;omega)
  ·have hql:q=acc.length:=by simp only at hgq;omega
   subst hql;rw[cd]at hoc hov;rw[hC]at hoc;rw[hM]at hov;have hscl:=hoc.len;rw[cD]at hscl;have hb:(tx B O T p= [])↔sc.len=0:=by rw[hscl];exact aA.symm
   refine Join.intro (fun t h'=>t=(decide (p=0)&&decide (sc.len>0))∧h'=h107) (fun R hR=>?_) ?_
   ·refine CondP.intro (fun e=>hR _ _ ⟨?_,rfl⟩) fun e=>hR _ _ ⟨?_,rfl⟩
    ·have e:p=0:=by simpa using e
     rw[decide_eq_true e,mh,decide_eq_decide];simp only;omega
    ·have e:p≠0:=by simpa using e
     rw[decide_eq_false e,Bool.false_and]
   rintro t h' ⟨rfl,e'⟩;rw[e'];have hslc:Sl vM 7 No h107 sc ((tx B O T p).map (GJ B O T)):=hoc.sl fun _ _ _ h=>h
   refine CondP.intro (fun e=>?_) fun e=>?_
   ·have e:p=0∧sc.len>0:=by simpa using e
    refine⟨_,vc q1 0,_,vc q1 1,_,vc q1 2,_,vc q1 3,so,vc q1 4,?_⟩;refine cO (c:=nU NR) (vs:=nU (kind,hx kind x.k0,hx kind x.k1,hx kind x.mask,so)) q3 rfl fun h198 b198 hu198=>?_
    refine⟨_,vc b198 0,_,vc b198 1,_,vc b198 2,_,vc b198 3,so,vc b198 4,?_⟩;refine hk0 e.1 (fun hc=>by have:=hb.1 hc;omega) h198 sc ((hoc.upd hu198 fun y hy e=>?_).sl fun _ _ _ h=>h) (k0107.own hu198 (by omega))
    have e:y=h3.size:=e;have:=(hS1 y hy).1;omega
   ·have e:p=0→sc.len=0:=fun hp=>by
     rw[decide_eq_true hp,mh]at e;have:=of_decide_eq_false e;omega
    refine⟨_,vc bv 0,_,vc bv 1,_,vc bv 2,_,vc bv 3,sv,vc bv 4,?_⟩;refine cO (c:=nU NR) (vs:=nU (kind,hx kind x.k0,hx kind x.k1,hx kind x.mask,sv)) q3 rfl fun h198 b198 hu198=>?_
    refine⟨_,vc b198 0,_,vc b198 1,_,vc b198 2,_,vc b198 3,sv,vc b198 4,?_⟩;refine hk (fun hp=>hb.2 (e hp)) h198 (kind,hx kind x.k0,hx kind x.k1,hx kind x.mask,sv) sc ⟨sv,rfl,(hov.upd hu198 fun y hy e=>?_).sl fun y hy _ hw=>?_,hov.cap⟩ ((hoc.upd hu198 fun y hy e=>?_).sl fun _ _ _ h=>h) (k0107.own hu198 (by omega))
    ·have e:y=h3.size:=e
     have:=(hS2 y hy).1;omega
    ·have h1:=(hS2 y hy).1
     have h2:=hW y hw;omega
    ·have e:y=h3.size:=e
     have:=(hS1 y hy).1;omega
end Go.Proofs
namespace Go.Proofs
open Go Go.Lift
theorem Qe(n:Nat):IntKind.wrap .u64 (n:Int)=((n%18446744073709551616:Nat):Int):=by rw[IntKind.wrap_u64];omega
theorem A9{n:Nat}(h:n<18446744073709551616):IntKind.wrap .u64 (n:Int)=(n:Int):=by rw[Qe,dN h]
theorem F5{a b:Nat}(ha:a<18446744073709551616)(hb:b<18446744073709551616):F7 a b=((a|||b:Nat):Int):=by
 unfold F7;rw[show IntKind.bits .u64=64 from rfl,fD,fD,BitVec.toNat_or,pf,pf,dN (show a<2^64 from ha),dN (show b<2^64 from hb)]
 exact A9 (Nat.or_lt_two_pow (n:=64) ha hb)
theorem F6{n a b:Nat}(hb:b<2^n)(ha:a*2^n+b<18446744073709551616):F7 ((a*2^n:Nat):Int) (b:Int)=((a*2^n+b:Nat):Int):=by
 rw[F5 (by omega) (by omega),jz a,Nat.two_pow_add_eq_or_of_lt hb]
def Ol(x:Nat):Nat:=x*2%18446744073709551616+x/9223372036854775808
def FU:Nat→Nat→Nat
 |0,x=>x
 |n+1,x=>Ol (FU n x)
theorem VZ{n:Nat}(hn:n≤64){x a b:Nat}(hb:b<2^(64-n))(ha:a<2^n)(e:x=a*2^(64-n)+b):FU n x=b*2^n+a:=by
 induction n generalizing a b with
 |zero=>
  have:a=0:=by simpa using ha
  subst this;rw[e];simp[FU]
 |succ n ih=>
  have e1:(2:Nat)^(64-n)=2*2^(64-(n+1)):=by rw[show 64-n=(64-(n+1))+1 by omega,nP,jz]
  have e2:(2:Nat)^(n+1)=2*2^n:=by rw[nP,jz]
  have e3:(2:Nat)^(64-(n+1))*2^n=9223372036854775808:=by rw[←pq,show 64-(n+1)+n=63 by omega]
  have h1:a%2<2:=qL _ (by omega);have h2:=Nat.div_add_mod a 2;have ha2:a/2<2^n:=by omega
  have hB:a%2*2^(64-(n+1))+b<2^(64-n):=by
   rw[e1];have:a%2*2^(64-(n+1))≤1*2^(64-(n+1)):=cy _ (by omega);omega
  have e4:x=a/2*2^(64-n)+(a%2*2^(64-(n+1))+b):=by
   rw[e,e1,←kR,←qY,←jG,jz (a/2) 2,h2]
  have:=ih (by omega) hB ha2 e4;show Ol (FU n x)=_
  rw[this,jG,qY,e3,e2];unfold Ol;have hb2:b*2^n+2^n≤2^(64-(n+1))*2^n:=by
   rw[←kF];exact cy _ hb
  rw[e3]at hb2;have e5:b*(2*2^n)=2*(b*2^n):=by rw[Nat.mul_left_comm]
  rw[e5];generalize b*2^n=B at hb2;generalize 2^n=N at ha2 hb2;have:a%2=0∨a%2=1:=by omega
  rcases this with h|h<;>rw[h]at h2⊢<;>omega
theorem VY(n:Nat){x:Nat}(hx:x<18446744073709551616):FU n x<18446744073709551616:=by
 induction n with
 |zero=>exact hx
 |succ n ih=>show Ol _<_;unfold Ol;omega
theorem Y4{n:Nat}(h:n<64):Nf (IntKind.wrap .u64 (n:Int)) 63=(n:Int):=by
 rw[A9 (by omega)];unfold Nf;have:∀n:Fin 64,(ao (IntKind.bits .u64) ((n.val:Nat):Int)&&&ao (IntKind.bits .u64) 63).toNat=n.val:=by decide
 rw[this ⟨n,h⟩];exact A9 (by omega)
theorem VX{n x:Nat}(hn:n<64)(hx:x<18446744073709551616):FT (x:Int) (n:Int)=((FU n x:Nat):Int):=by
 unfold FT;rw[Y4 hn];rw[show((64:Int)-(n:Int))=((64-n:Nat):Int) by omega,A9 (by omega)]
 simp only[show IntKind.bits .u64=64 from rfl,aV,bN (w8 hn),bN (Nat.sub_le 64 n)]
 have e3:(2:Nat)^(64-n)*2^n=18446744073709551616:=by rw[←pq,show 64-n+n=64 by omega]
 have hd:=Nat.div_add_mod x (2^(64-n));have hm:x%2^(64-n)<2^(64-n):=qL _ (Nat.two_pow_pos _);have ha:x/2^(64-n)<2^n:=by
  rw[Nat.div_lt_iff_lt_mul (Nat.two_pow_pos _),jz,e3];exact hx
 rw[jz]at hd;rw[VZ (w8 hn) hm ha hd.symm];rw[show((x:Int)*2^n)=((x*2^n:Nat):Int) by rw[Int.natCast_mul,rT];rfl,Qe]
 rw[show Int.fdiv (x:Int) (2^(64-n))=((x/2^(64-n):Nat):Int) by rw[show((2:Int)^(64-n))=((2^(64-n):Nat):Int) by rw[rT];rfl];exact Int.ofNat_fdiv x _▸rfl]
 have hb2:x%2^(64-n)*2^n+2^n≤2^(64-n)*2^n:=by
  rw[←kF];exact cy _ hm
 rw[e3]at hb2;have e6:x*2^n%18446744073709551616=x%2^(64-n)*2^n:=by
  rw[←e3,Nat.mul_mod_mul_right]
 rw[e6];exact F6 ha (by omega)
end Go.Proofs
namespace Go.Proofs
open Go Go.Lift
def HG(s:ByteArray)(i:Nat):Nat:=if h:i<s.size then(s[i]'h).toNat else 0
def hv(s:ByteArray):Nat→Nat→Nat
 |_,0=>0
 |p,c+1=>hv s (p+1) c*256+HG s p
theorem UV(s:ByteArray)(i:Nat):HG s i<256:=by
 unfold HG;split
 ·exact tU _
 ·omega
theorem Re(s:ByteArray)(i:Nat):Nc s i=(HG s i:Int):=by
 unfold Nc HG;by_cases h:i<s.size
 ·rw[dif_pos h,getElem?_pos s i h]
 ·rw[dif_neg h,getElem?_neg s i h];rfl
theorem GO{s:ByteArray}{i:Nat}(h:s.size≤i):HG s i=0:=dif_neg (by omega)
theorem JA(s:ByteArray):∀(c p:Nat),hv s p c<256^c
 |0,_=>by show(0:Nat)<1;omega
 |c+1,p=>by
  have:=JA s c (p+1);have:=UV s p;rw[nP];show hv s (p+1) c*256+HG s p<_
  omega
theorem QY{s:ByteArray}:∀{c p:Nat},s.size≤p→hv s p c=0
 |0,_,_=>rfl
 |c+1,p,h=>by
  show hv s (p+1) c*256+HG s p=0
  rw[QY (by omega),GO h]
theorem KZ{s:ByteArray}{d:Nat}:∀{c p:Nat},s.size≤p+c→hv s p (c+d)=hv s p c
 |0,p,h=>by rw[QY (by omega)];rfl
 |c+1,p,h=>by
  rw[show c+1+d=(c+d)+1 by omega]
  show hv s (p+1) (c+d)*256+_=hv s (p+1) c*256+_
  rw[KZ (by omega)]
theorem WI{s:ByteArray}{a b i:Nat}(hb:b≤s.size):HG (s.extract a b) i=if a+i<b then HG s (a+i)else 0:=by
 unfold HG;have e:(s.extract a b).size=b-a:=by rw[fN];omega
 by_cases h:a+i<b
 ·rw[if_pos h,dif_pos (by omega),dif_pos (by omega),ByteArray.getElem_extract]
 ·rw[if_neg h,dif_neg (by omega)]
theorem O4{s:ByteArray}{a:Nat}:∀{c p b:Nat},b≤s.size→(b=s.size∨a+p+c≤b)→hv (s.extract a b) p c=hv s (a+p) c
 |0,_,_,_,_=>rfl
 |c+1,p,b,hb,h=>by
  show hv _ (p+1) c*256+_=hv s (a+p+1) c*256+_
  rw[O4 hb (h.imp id fun h=>by omega),WI hb,kR]
  congr 1
  split
  ·rfl
  ·exact(GO (by omega)).symm
theorem WT{s:ByteArray}:∀{k c:Nat},k+c≤8→wj s k ((hv s k c*2^(8*k):Nat):Int)=((hv s 0 (k+c):Nat):Int)
 |0,c,_=>by
  show((hv s 0 c*2^(8*0):Nat):Int)=_
  rw[Nat.zero_add];simp
 |k+1,c,h=>by
  have hb:=UV s k;have hc:=JA s c (k+1);have e8:(2:Nat)^(8*(k+1))=256*2^(8*k):=by rw[show 8*(k+1)=8+8*k by omega,pq]
  have hle:256^c*2^(8*(k+1))≤18446744073709551616:=by
   rw[show(256:Nat)=2^8 from rfl,←Nat.pow_mul,←pq]
   exact Nat.pow_le_pow_right (by omega) (show 8*c+8*(k+1)≤64 by omega)
  have hA:hv s (k+1) c*2^(8*(k+1))+2^(8*(k+1))≤18446744073709551616:=by
   rw[←kF];exact bh (cy _ hc) hle
  have hB:HG s k*2^(8*k)<2^(8*(k+1)):=by rw[e8];exact Nat.mul_lt_mul_of_pos_right hb (Nat.two_pow_pos _)
  have hsum:hv s (k+1) c*2^(8*(k+1))+HG s k*2^(8*k)=hv s k (c+1)*2^(8*k):=by
   rw[e8,←qY,←jG];rfl
  have hin:(if k=0 then IntKind.wrap .u64 (Nc s 0)else W1 (Nc s k) ((8*k:Nat):Int))=((HG s k*2^(8*k):Nat):Int):=by
   split
   ·rename_i e
    subst e;rw[Re,IntKind.wrap_u64];simp;omega
   ·unfold W1
    rw[Re,aV,show IntKind.bits .u64=64 from rfl,bN (by omega)]
    have e1:IntKind.wrap .u64 ((HG s k:Nat):Int)=((HG s k:Nat):Int):=by rw[IntKind.wrap_u64];omega
    rw[e1,show((HG s k:Int)*2^(8*k))=((HG s k*2^(8*k):Nat):Int) by rw[Int.natCast_mul,rT];rfl,IntKind.wrap_u64]
    omega
  show wj s k (F7 _ (if k=0 then _ else _))=_
  rw[hin,F6 hB (by omega),hsum,WT (by omega),show k+(c+1)=k+1+c by omega]
theorem LO{s:ByteArray}(h:s.size≤8):zi s=((hv s 0 8:Nat):Int):=by
 have:=WT (s:=s) (k:=s.size) (c:=0) (by omega);rw[show hv s s.size 0=0 from rfl,Nat.zero_mul]at this
 unfold zi;rw[show((0:Nat):Int)=0 from rfl]at this
 rw[this,dU];have e:=KZ (s:=s) (d:=8-s.size) (c:=s.size) (p:=0) (by omega);rw[show s.size+(8-s.size)=8 by omega]at e
 rw[e]
def pV:Nat→ByteArray→Nat→Q4→Nat×Q4
 |0,_,a,q=>(a,q)
 |n+1,s,a,q=>if a+8≤s.size then pV n s (a+8) (rV (hv s a 8:Nat) q)else(a,q)
theorem L3:∀{n:Nat} {s:ByteArray} {a:Nat} {q:Q4},a≤s.size→D2 n (s.extract a s.size) q=(s.extract (pV n s a q).1 s.size,(pV n s a q).2)
 |0,_,_,_,_=>rfl
 |n+1,s,a,q,h=>by
  have e:(s.extract a s.size).size=s.size-a:=by rw[fN];omega
  show(if 8≤(s.extract a s.size).size then _ else _)=_
  rw[e];by_cases hc:a+8≤s.size
  ·rw[if_pos (show 8≤s.size-a by omega),ByteArray.extract_extract,ByteArray.extract_extract]
   rw[show pV (n+1) s a q=pV n s (a+8) (rV (hv s a 8:Nat) q)from if_pos hc]
   rw[show min (a+(s.size-a)) s.size=s.size by omega,show min (a+8) s.size=a+8 by omega,dU]
   rw[LO (by rw[fN];omega),O4 (by omega) (.inr (by omega)),dU];exact L3 hc
  ·rw[if_neg (show ¬8≤s.size-a by omega),show pV (n+1) s a q=(a,q)from if_neg hc]
theorem JL:∀{n:Nat} {s:ByteArray} {a:Nat} {q:Q4},s.size≤a+n→a≤s.size→s.size<(pV n s a q).1+8∧(pV n s a q).1≤s.size
 |0,_,_,_,h,h'=>⟨by show _<_+8;simp only[pV];omega,h'⟩
 |n+1,s,a,q,h,h'=>by
  by_cases hc:a+8≤s.size
  ·rw[show pV (n+1) s a q=pV n s (a+8) (rV (hv s a 8:Nat) q)from if_pos hc]
   exact JL (by omega) hc
  ·rw[show pV (n+1) s a q=(a,q)from if_neg hc]
   exact⟨by simp only;omega,h'⟩
theorem VN{k0 k1:Int}{s:ByteArray}:N5 k0 k1 s=(let g:=pV s.size s 0 (dP k0 8317987319222330741,dP k1 7237128888997146477,dP k0 7816392313619706465,dP k1 8387220255154660723)
  Wz (rV ((hv s g.1 8+s.size%256*72057594037927936:Nat):Int) g.2)):=by
 unfold N5 Yy;generalize (dP k0 8317987319222330741,dP k1 7237128888997146477,dP k0 7816392313619706465,dP k1 8387220255154660723)=q;have e:=L3 (n:=s.size) (s:=s) (a:=0) (q:=q) (aW _);rw[ByteArray.extract_zero_size]at e;rw[e];have⟨h1,h2⟩:=JL (n:=s.size) (s:=s) (a:=0) (q:=q) (by omega) (aW _);generalize pV s.size s 0 q=g at h1 h2;obtain⟨a,r⟩:=g;simp only at h1 h2⊢
 rw[LO (by rw[fN];omega),O4 (aq _) (.inl rfl),dU];congr 2
 have hc:hv s a 8<2^56:=by
  have e:=KZ (s:=s) (d:=1) (c:=7) (p:=a) (by omega);rw[show(7+1:Nat)=8 from rfl]at e
  rw[e];exact JA s 7 a
 have hsh:W1 (s.size:Int) 56=((s.size%256*2^56:Nat):Int):=by
  unfold W1;rw[show min ((56:Int)).toNat (IntKind.bits .u64)=56 from rfl,Qe]
  rw[show(((s.size%18446744073709551616:Nat):Int)*2^56)=((s.size%18446744073709551616*72057594037927936:Nat):Int) by rw[Int.natCast_mul];rfl,Qe]
  omega
 have hm:s.size%256*2^56+hv s a 8<18446744073709551616:=by omega
 have hcc:∀{a b:Nat},a<18446744073709551616→b<18446744073709551616→F7 a b=F7 b a:=fun ha hb=>by rw[F5 ha hb,F5 hb ha,Nat.or_comm]
 rw[hsh,hcc (Nat.lt_trans hc (by decide)) (Nat.lt_of_le_of_lt (Nat.le_add_right _ _) hm),F6 hc hm,Nat.add_comm]
end Go.Proofs
