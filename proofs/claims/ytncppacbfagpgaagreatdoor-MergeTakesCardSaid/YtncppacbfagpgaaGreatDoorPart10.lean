/- A part of the proof that the named laws of this program answer true, whatever the input. -/
import Derived.Test.YtncppacbfagpgaaGreatDoorPart9
import Derived.Test.YtncppacbfagpgaaGreatDoorPart8
open BitVec renaming ofInt→ao
open Bool renaming true_and→nW
open ByteArray renaming mk→nC
open Int renaming tdiv→gj,tdiv_eq_ediv_of_nonneg→du,natCast_mul→qJ
open List renaming range→gh,getElem?_map→mf,getElem?_eq_getElem→af,getElem?_eq_none→lG,pairwise_map→j7,pairwise_iff_getElem→cn,getElem_mem→bh,length_eq_zero_iff→aA,length_take→aQ,map_append→cO,length_map→cC,take_succ_eq_append_getElem→bj,pairwise_cons→aF,filterMap_cons→mD
open List.Pairwise renaming nil→eI
open Nat renaming le_of_eq→eY,le_refl→aj,zero_le→aS,le_trans→aX,lt_or_ge→bR,lt_of_lt_of_le→aG
namespace Go.Proofs
open Go Go.Lift Go.Sort
variable {dec:Int→Ch} {M:Nat→Prop} {s:SliceV} {h:ad} {d:Array Int}
@[simp] theorem II(lt:Int→Int→Bool):∀(j:Nat) (d:Array Int),(shiftDown lt j d).size=d.size
 |0,d=>rfl
 |j+1,d=>by rw[shiftDown];split;rfl;rw[II lt j];simp
@[simp] theorem ZN(lt:Int→Int→Bool)(e j:Nat)(d:Array Int):(shiftUp lt e j d).size=d.size:=by
 fun_induction shiftUp lt e j d<;>simp_all
theorem K9{a e:Nat}(hs:SA dec M s h d)(ha:a<e)(he:e≤d.size){K:Bool→ad→Prop}(Q:∀h',SA dec M s h' (partialInsertionSort (mH dec) d a e).1→Upd M h h'→K (partialInsertionSort (mH dec) d a e).2 h'):
  HC PG eC [.slice s.a s.len s.cap,.int .i64 a,.int .i64 e,tR] [.c .bool] K h:=by
 refine lM s a e tR ?_;unfold gF bE bT az jR bF lH ga nY;have hsm:=hs.small;refine LoopP.ghost (fun(g:Nat×Nat×Array Int) (t:Int×Int) h'=>t.1=(g.2.1:Int)∧t.2=5-(g.1:Int)∧SA dec M s h' g.2.2∧g.2.2.size=d.size∧partialIns (mH dec) a e g.1 g.2.1 g.2.2=partialInsertionSort (mH dec) d a e∧Upd M h h'∧g.1≤5∧a<g.2.1∧g.2.1≤e) (fun g=>g.1) (5,a+1,d)
  ⟨by simp only;rw[eJ (by omega)];rfl,by simp only;omega,hs,rfl,rfl,Upd.refl _ _,by simp,by simp,by simp only;omega⟩ ?_
 rintro I ⟨st,i0,v⟩ ⟨t1,t2⟩ h1 ⟨ht1,Z,J,hz1,w,hu1,hst,hai,hie⟩ hI;simp only at ht1 Z J hz1 w hst hai hie;subst ht1 Z;refine ax (fun hlt=>?_) fun hge=>?_
 ·obtain⟨st,rfl⟩:∃k,st=k+1:=⟨st-1,by have:5-(st:Int)<5:=hlt;omega⟩
  refine Join.intro (fun t h'=>∃S W,t=(S:Nat)∧SA dec M s h' W∧W.size=d.size∧partialIns (mH dec) a e st S W=partialInsertionSort (mH dec) d a e∧Upd M h h'∧a<S∧S≤e) (fun R hR=>?_) ?_
  ·refine LoopP.ghost (fun(i:Nat) (t:Int) h'=>t=(i:Int)∧SA dec M s h' v∧Upd No h1 h'∧scanSorted (mH dec) v e i=scanSorted (mH dec) v e i0∧a<i∧i≤e) (fun i=>e-i) i0 ⟨rfl,J,Upd.refl _ _,rfl,hai,hie⟩ ?_
   rintro I2 i t h' ⟨rfl,z,k2,U,f,m⟩ hI2;refine Join.intro (fun c D=>SA dec M s D v∧Upd No h' D∧(c=true↔i<e∧(mH dec) v[i]! v[i-1]! =false)) (fun R2 hR2=>?_) ?_
   ·refine ax (fun hle=>?_) fun hgt=>hR2 _ _ ⟨z,Upd.refl _ _,by simp;omega⟩
    exact z.less (i:=i) (j:=i-1) rfl (by rw[eJ (by omega)];omega) (by omega) (by omega) fun B e3 p k3 he3=>hR2 _ _ ⟨p,k3,by rw[he3];simp;omega⟩
   ·rintro c D ⟨p,k3,hc⟩
    have y:=hu1.tr (k2.tr k3).wide;refine CondP.intro (fun h2=>?_) fun h2=>?_
    ·have hh:=hc.1 h2
     refine hI2 (i+1) _ _ ⟨by rw[eJ (by omega)];rfl,p,k2.tr k3,?_,by omega,by omega⟩ (by omega)
     rw[←U];conv=>rhs;rw[scanSorted]
     rw[if_pos (by simp[hh])]
    ·have hsi:scanSorted (mH dec) v e i=i:=by
      rw[scanSorted,if_neg];intro hh;simp only[Bool.and_eq_true,decide_eq_true_iff,Bool.not_eq_eq_eq_not,Bool.not_true]at hh;rw[hc.2 hh]at h2;cases h2
     have b:=w;rw[partialIns]at b;simp only[←U,hsi]at b;refine CondP.intro (fun B=>?_) fun B=>?_
     ·have B:i=e:=by
       have:(i:Int)=e:=by simpa using B
       omega
      rw[if_pos B]at b;rw[←b]at Q;exact Q _ p y
     ·have B:i≠e:=fun e'=>by subst e';simp at B
      rw[if_neg B]at b;have we:IntKind.wrap .i64 ((e:Int)-(a:Int))=((e-a:Nat):Int):=by rw[eJ (by omega)];omega
      show CondP (decide (IntKind.wrap .i64 ((e:Int)-(a:Int))<50)) _ _
      rw[we];refine ax (fun h4=>?_) fun h4=>?_
      ·rw[if_pos (by omega)]at b
       rw[←b]at Q;exact Q _ p y
      ·rw[if_neg (by omega)]at b
       have hi1:1≤i:=by omega
       refine p.swap (i:=i) (j:=i-1) rfl (by rw[eJ (by omega)];omega) (by omega) (by omega) fun h5 F hu5=>?_
       have G:(swp v i (i-1)).size=d.size:=by simp[hz1]
       generalize swp v i (i-1)=d5 at F G b;refine Join.intro (fun _ h'=>SA dec M s h' (if i-a≥2 then shiftDown (mH dec) (i-1) d5 else d5)∧Upd M h h') (fun R3 q=>?_) ?_
       ·have wi:IntKind.wrap .i64 ((i:Int)-(a:Int))=((i-a:Nat):Int):=by rw[eJ (by omega)];omega
        show CondP (decide (IntKind.wrap .i64 ((i:Int)-(a:Int))≥2)) _ _
        rw[wi];refine ax (fun h6=>?_) fun h6=>?_
        ·rw[if_pos (by omega)]at q
         refine LoopP.ghost (fun(g:Nat×Array Int) (t:Int) h'=>t=(g.1:Int)∧SA dec M s h' g.2∧g.2.size=d.size∧shiftDown (mH dec) g.1 g.2=shiftDown (mH dec) (i-1) d5∧Upd M h h'∧g.1<e) (fun g=>g.1) (i-1,d5)
          ⟨by rw[eJ (by omega)];simp only;omega,F,G,rfl,y.tr hu5,by simp only;omega⟩ ?_
         rintro I4 ⟨j,d6⟩ t h7 ⟨ht,N,Y,o,V,P⟩ E;simp only at ht N Y o P;subst ht;refine ax (fun h8=>?_) fun h8=>?_
         ·obtain⟨j,rfl⟩:∃k,j=k+1:=⟨j-1,by omega⟩
          have T:IntKind.wrap .i64 (((j+1:Nat):Int)-1)=(j:Int):=by rw[eJ (by omega)];omega
          rw[shiftDown]at o;refine N.less (i:=j+1) (j:=j) rfl T (by omega) (by omega) fun hL eL hsL kL H=>?_
          have u:=V.tr kL.wide;rw[H];refine CondP.intro (fun h9=>?_) fun h9=>?_
          ·rw[if_pos h9]at o
           exact q _ _ ⟨by rw[←o];exact hsL,u⟩
          ·rw[if_neg (by rw[h9];simp)]at o
           refine hsL.swap (i:=j+1) (j:=j) rfl T (by omega) (by omega) fun x hs10 hu10=>?_
           exact E (j,swp d6 (j+1) j) _ _ ⟨T,hs10,by simp[Y],o,u.tr hu10,by simp only;omega⟩ (by simp)
         ·have:j=0:=by omega
          subst this;exact q _ _ ⟨by rw[←o];exact N,V⟩
        ·rw[if_neg (by omega)]at q
         exact q _ _ ⟨F,y.tr hu5⟩
       ·rintro _ h6 ⟨O,hu6⟩
        have L:(if i-a≥2 then shiftDown (mH dec) (i-1) d5 else d5).size=d.size:=by split<;>simp[G]
        generalize (if i-a≥2 then shiftDown (mH dec) (i-1) d5 else d5)=d6 at O L b
        have wi:IntKind.wrap .i64 ((e:Int)-(i:Int))=((e-i:Nat):Int):=by rw[eJ (by omega)];omega
        show CondP (decide (IntKind.wrap .i64 ((e:Int)-(i:Int))≥2)) _ _
        rw[wi];refine ax (fun h7=>?_) fun h7=>?_
        ·rw[if_pos (by omega)]at b
         refine LoopP.ghost (fun(g:Nat×Array Int) (t:Int) h'=>t=(g.1:Int)∧SA dec M s h' g.2∧g.2.size=d.size∧shiftUp (mH dec) e g.1 g.2=shiftUp (mH dec) e (i+1) d6∧Upd M h h'∧1≤g.1∧g.1≤e) (fun g=>e-g.1) (i+1,d6)
          ⟨by rw[eJ (by omega)];rfl,O,L,rfl,hu6,by simp,by simp only;omega⟩ ?_
         rintro I4 ⟨j,d7⟩ t h8 ⟨ht,C,A,n,hu8,hj1,P⟩ E;simp only at ht C A n hj1 P;subst ht;refine ax (fun h9=>?_) fun h9=>?_
         ·have T:IntKind.wrap .i64 ((j:Int)-1)=((j-1:Nat):Int):=by rw[eJ (by omega)];omega
          rw[shiftUp,if_pos (by omega)]at n;refine C.less (i:=j) (j:=j-1) rfl T (by omega) (by omega) fun hL eL hsL kL H=>?_
          have u:=hu8.tr kL.wide;rw[H];refine CondP.intro (fun x=>?_) fun x=>?_
          ·rw[if_pos x]at n
           exact hR _ _ ⟨i,d7,rfl,hsL,A,by rw[n];exact b,u,f,m⟩
          ·rw[if_neg (by rw[x];simp)]at n
           refine hsL.swap (i:=j) (j:=j-1) rfl T (by omega) (by omega) fun h11 hs11 X=>?_
           exact E (j+1,swp d7 j (j-1)) _ _ ⟨by rw[eJ (by omega)];rfl,hs11,by simp[A],n,u.tr X,by simp,by simp only;omega⟩ (by simp only;omega)
         ·rw[shiftUp,if_neg (by omega)]at n
          exact hR _ _ ⟨i,d7,rfl,C,A,by rw[n];exact b,hu8,f,m⟩
        ·rw[if_neg (by omega)]at b
         exact hR _ _ ⟨i,d6,rfl,O,L,b,hu6,f,m⟩
  ·rintro t h' ⟨S,W,rfl,z,hz2,b,hu2,f,m⟩
   exact hI (st,S,W) _ _ ⟨rfl,by simp only;rw[eJ (by omega)];omega,z,hz2,b,hu2,by simp only;omega,f,m⟩ (by simp)
 ·have:st=0:=by have:¬5-(st:Int)<5:=hge;omega
  subst this;rw[partialIns]at w;rw[←w]at Q;exact Q _ J hu1
theorem FX{x y:Nat}(u:SA dec M s h d)(hx:x<d.size)(v:y<d.size){c:Nat}{n:Int}(hc:h[c]? =some (.cells #[.int .i64 n] jJ (0,0))) (f:¬M c) {K:Int×Int→ad→Prop}
  (o:∀h' (p q:Nat) m,(p=x∧q=y∨p=y∧q=x)→SA dec M s h' d→h'[c]? =some (.cells #[.int .i64 m] jJ (0,0))→Upd (· =c) h h'→K ((p:Int),(q:Int)) h'):
  HC PG dX [.slice s.a s.len s.cap,.int .i64 x,.int .i64 y,.pointer (some ⟨c,0,none⟩),tR] [.c (.int .i64),.c (.int .i64)] K h:=by
 refine rc s x y (some ⟨c,0,none⟩) tR ?_;unfold ly bT az jR bF nY;refine u.less (i:=y) (j:=x) rfl rfl v hx fun g w b k0 e=>?_
 have a:=k0.get0 hc;rw[e];refine CondP.intro (fun t=>?_) fun t=>?_
 ·refine⟨_,rfl,n,by rw[bm a];rfl,_,rfl,ip a (by simp),?_⟩
  have k:Upd (· =c) g (hset g ⟨c,0,none⟩ (.int .i64 (IntKind.wrap .i64 (n+1)))):=Upd.hset _ _ rfl
  refine o _ y x (IntKind.wrap .i64 (n+1)) (.inr ⟨rfl,rfl⟩) (b.updC k f) ?_ (k0.wide.tr k);rw[yo a,jE a];rfl
 ·exact o _ x y _ (.inl ⟨rfl,rfl⟩) b a k0.wide
theorem Mx{x y z:Nat}(F:SA dec M s h d)(hx:x<d.size)(H:y<d.size)(E:z<d.size){c:Nat}{n:Int}(hc:h[c]? =some (.cells #[.int .i64 n] jJ (0,0))) (a:¬M c) {K:Int→ad→Prop}
  (A:∀h' (p:Nat) m,(p=x∨p=y∨p=z)→SA dec M s h' d→h'[c]? =some (.cells #[.int .i64 m] jJ (0,0))→Upd (· =c) h h'→K (p:Int) h'):
  HC PG fx [.slice s.a s.len s.cap,.int .i64 x,.int .i64 y,.int .i64 z,.pointer (some ⟨c,0,none⟩),tR] [.c (.int .i64)] K h:=by
 refine re s x y z (some ⟨c,0,none⟩) tR ?_;unfold lz;refine FX F hx H hc a fun S G B R N e k b=>?_
 have i:B<d.size:=by omega
 have v:G<d.size:=by omega
 refine FX e i E k a fun h2 D J P Q g u o=>?_
 have f:D<d.size:=by omega
 refine FX g v f u a fun L I w C O j t q=>?_
 exact A _ w C (by omega) j t ((b.tr o).tr q)
theorem zg{x:Nat}(g:SA dec M s h d)(q:1≤x)(hx:x+1<d.size){c:Nat}{n:Int}(hc:h[c]? =some (.cells #[.int .i64 n] jJ (0,0))) (e:¬M c) {K:Int→ad→Prop}
  (j:∀h' (p:Nat) m,(x-1≤p∧p≤x+1)→SA dec M s h' d→h'[c]? =some (.cells #[.int .i64 m] jJ (0,0))→Upd (· =c) h h'→K (p:Int) h'):
  HC PG cV [.slice s.a s.len s.cap,.int .i64 x,.pointer (some ⟨c,0,none⟩),tR] [.c (.int .i64)] K h:=by
 refine nn s x (some ⟨c,0,none⟩) tR ?_;unfold iB;have k:=g.small;have i:IntKind.wrap .i64 ((x:Int)-1)=((x-1:Nat):Int):=by rw[eJ (by omega)];omega
 have o:IntKind.wrap .i64 ((x:Int)+1)=((x+1:Nat):Int):=by rw[eJ (by omega)];omega
 rw[i,o];exact Mx g (by omega) (by omega) hx hc e fun h' p m t f a b=>j h' p m (by omega) f a b
theorem JR{a e:Nat}(N:SA dec M s h d)(ha:a<e)(he:e≤d.size){K:Int×Int→ad→Prop}
  (u:∀h' (p:Nat) (n:Int),a≤p→p<e→SA dec M s h' d→Upd No h h'→K ((p:Int),n) h'):
  HC PG fV [.slice s.a s.len s.cap,.int .i64 a,.int .i64 e,tR] [.c (.int .i64),.c (.int .i64)] K h:=by
 refine oL s a e tR ?_;unfold jD;have X:=N.small;have k0:=Upd.hnew No h [.int .i64 0] jJ;have i:=co h [.int .i64 0] jJ;have j:=N.upd0 k0;have o:¬M h.size:=fun C=>by have:=N.lt _ C;omega
 simp only[At];generalize hnew h [.int .i64 0] jJ=h0 at k0 i j;have wl:IntKind.wrap .i64 ((e:Int)-(a:Int))=((e-a:Nat):Int):=by rw[eJ (by omega)];omega
 have Z:IntKind.wrap .i64 (gj ((e-a:Nat):Int) 4)=(((e-a)/4:Nat):Int):=by
  rw[du (by omega),eJ (by omega)];omega
 have O:∀k:Nat,k≤3→IntKind.wrap .i64 (((((e-a)/4:Nat):Int))*(k:Int))=(((e-a)/4*k:Nat):Int):=fun k u=>by
  rw[qJ,eJ];have:(e-a)/4*k≤1000000000*3:=Nat.mul_le_mul (by omega) u;have:(((e-a)/4*k:Nat):Int)=(((e-a)/4:Nat):Int)*(k:Int):=qJ ..;omega
 have T:=O 1 (by omega);have Q:=O 2 (by omega);have w3:=O 3 (by omega);simp only[Int.cast_ofNat_Int]at T Q w3;simp only[Bd,wl,Z];have H:IntKind.wrap .i64 ((((e-a)/4:Nat):Int)*1)=(((e-a)/4*1:Nat):Int):=T;have I:IntKind.wrap .i64 ((((e-a)/4:Nat):Int)*2)=(((e-a)/4*2:Nat):Int):=Q;have D:IntKind.wrap .i64 ((((e-a)/4:Nat):Int)*3)=(((e-a)/4*3:Nat):Int):=w3;rw[H,I,D];have F:∀k:Nat,k≤3→IntKind.wrap .i64 ((a:Int)+(((e-a)/4*k:Nat):Int))=((a+(e-a)/4*k:Nat):Int):=fun k u=>by
  have:(e-a)/4*k≤(e-a)/4*3:=Nat.mul_le_mul_left _ u;rw[eJ (by omega)];omega
 refine⟨by decide,by decide,by decide,?_⟩
 refine Join.intro (fun t h'=>∃p:Nat,t=(p:Int)∧a≤p∧p<e∧SA dec M s h' d∧Upd No h h'∧∃m,h'[h.size]? =some (.cells #[.int .i64 m] jJ (0,0))) (fun R S=>?_) ?_
 ·rw[F 1 (by omega),F 2 (by omega),F 3 (by omega)]
  refine ax (fun P=>?_) fun P=>?_
  ·have P:8≤e-a:=by omega
   refine Join.intro (fun t h'=>∃p q r:Nat,t=((p:Int),(q:Int),(r:Int))∧(a≤p∧p<e)∧(a≤q∧q<e)∧(a≤r∧r<e)∧SA dec M s h' d∧Upd No h h'∧∃m,h'[h.size]? =some (.cells #[.int .i64 m] jJ (0,0))) (fun R2 B=>?_) ?_
   ·refine ax (fun A=>?_) fun A=>?_
    ·have A:50≤e-a:=by omega
     refine zg j (by omega) (by omega) i o fun U p1 m1 e1 f g c=>?_
     refine zg f (by omega) (by omega) g o fun h2 G W Y w y x=>?_
     refine zg w (by omega) (by omega) y o fun h3 V m3 e3 E L J=>?_
     exact B _ _ ⟨p1,G,V,rfl,by omega,by omega,by omega,E,k0.trans ((c.tr x).tr J) fun b C=>.inr (eY C.symm),_,L⟩
    ·exact B _ _ ⟨_,_,_,rfl,by omega,by omega,by omega,j,k0,_,i⟩
   ·rintro t U ⟨p,q,r,rfl,hp,hq,hr,f,c,m,g⟩
    refine Mx f (by omega) (by omega) (by omega) g o fun h2 G W Y w y x=>?_
    exact S _ _ ⟨G,rfl,by omega,by omega,w,c.trans x fun b C=>.inr (eY C.symm),_,y⟩
  ·exact S _ _ ⟨_,rfl,by omega,by omega,j,k0,_,i⟩
 ·rintro t U ⟨p,rfl,z,v,f,c,m,g⟩
  refine⟨m,by rw[cT,bm g];rfl,CondP.intro (fun _=>u _ p _ z v f c) fun _=>CondP.intro (fun _=>u _ p _ z v f c) fun _=>u _ p _ z v f c⟩
end Go.Proofs
namespace Go.Proofs
open Go Go.Lift Go.Sort
variable {dec:Int→Ch} {M:Nat→Prop} {s:SliceV} {h:ad} {d:Array Int}
theorem Zz(x:Int):IntKind.wrap .u64 x=x%18446744073709551616:=by
 simp[IntKind.wrap,IntKind.bits,IntKind.signed]
theorem and_le_right(x:Int){m:Int}(a:0≤m)(hm:m<18446744073709551616):0≤IntKind.wrap .u64 ((ao (IntKind.bits .u64) x&&&ao (IntKind.bits .u64) m).toNat:Int)∧IntKind.wrap .u64 ((ao (IntKind.bits .u64) x&&&ao (IntKind.bits .u64) m).toNat:Int)≤m:=by
 have b:(ao (IntKind.bits .u64) x&&&ao (IntKind.bits .u64) m).toNat≤(ao (IntKind.bits .u64) m).toNat:=by
  rw[BitVec.toNat_and];exact Nat.and_le_right
 have h2:((ao (IntKind.bits .u64) m).toNat:Int)=m:=by
  show((ao 64 m).toNat:Int)=m
  rw[BitVec.toNat_ofInt];have:m%((2^64:Nat):Int)=m:=Int.emod_eq_of_lt a (by omega);rw[this];omega
 rw[Zz];omega
theorem Sr{n:Nat}(a:1≤n)(f:n≤1000000000){K:Int→ad→Prop}(b:∀m:Nat,1≤m→m≤2*n→K (m:Int) h):HC PG mI [.int .i64 n] [.c (.int .u64)] K h:=by
 refine yD n ?_;unfold ru;rw[show IntKind.wrap .u64 (n:Int)=(n:Int) by rw[Zz];omega]
 refine Sz (by omega) fun L d c=>⟨by omega,?_⟩
 have:=c a;have e:IntKind.wrap .u64 (1*2^(min ((L:Int)).toNat (IntKind.bits .u64)))=((2^L:Nat):Int):=by
  rw[Zz,show min ((L:Int)).toNat (IntKind.bits .u64)=L by simp[IntKind.bits];omega,Int.one_mul]
  have h2:(2:Int)^L=((2^L:Nat):Int):=by simp
  rw[h2];generalize 2^L=P at this⊢;omega
 rw[e];exact b _ (Nat.one_le_two_pow) this
theorem O1{c:Nat}{n:Int}{t:TypeId}(hc:h[c]? =some (.cells #[.int .u64 n] t (0,0))) {K:Int→ad→Prop}
  (i:∀h' m,h'[c]? =some (.cells #[.int .u64 m] t (0,0))→Upd (· =c) h h'→K m h'):HC PG nf [.pointer (some ⟨c,0,none⟩)] [.c (.int .u64)] K h:=by
 refine zI (some ⟨c,0,none⟩) ?_;unfold sC;have set:∀{h:ad} {n:Int} (m:Int),h[c]? =some (.cells #[.int .u64 n] t (0,0))→(hset h ⟨c,0,none⟩ (.int .u64 m))[c]? =some (.cells #[.int .u64 m] t (0,0))∧Upd (· =c) h (hset h ⟨c,0,none⟩ (.int .u64 m))∧Wr h ⟨c,0,none⟩:=fun m hc=>by
  refine⟨?_,Upd.hset _ _ rfl,ip hc (by simp)⟩;rw[yo hc,jE hc];rfl
 have a:∀{h:ad} {n:Int},h[c]? =some (.cells #[.int .u64 n] t (0,0))→aJ h ⟨c,0,none⟩=some (.int .u64 n):=fun hc=>by rw[bm hc];rfl
 refine⟨_,rfl,_,a hc,_,rfl,_,a hc,by omega,_,rfl,?_⟩
 obtain⟨d,k1,f⟩:=set _ hc;refine⟨f,_,rfl,_,a d,_,rfl,_,a d,by omega,_,rfl,?_⟩
 obtain⟨b,k,j⟩:=set _ d;refine⟨j,_,rfl,_,a b,_,rfl,_,a b,by omega,_,rfl,?_⟩
 obtain⟨e,g,w3⟩:=set _ b;exact⟨w3,_,rfl,_,a e,i _ _ e ((k1.tr k).tr g)⟩
theorem Gg{a e:Nat}(B:SA dec M s h d)(ha:a≤e)(he:e≤d.size){K:Unit→ad→Prop}(O:∀h' d',SA dec M s h' d'→PermIn a e d d'→Upd M h h'→K () h'):
  HC PG fG [.slice s.a s.len s.cap,.int .i64 a,.int .i64 e,tR] [] K h:=by
 refine nJ s a e tR ?_;unfold iX bE bT az bF lH ga;have hsm:=B.small;have wl:IntKind.wrap .i64 ((e:Int)-(a:Int))=((e-a:Nat):Int):=by rw[eJ (by omega)];omega
 rw[wl];refine ax (fun N=>?_) fun N=>O h d B (permIn_refl ..) (Upd.refl _ _)
 have N:8≤e-a:=by omega
 have k0:=Upd.hnew No h [.int .u64 0] jS;have b:=co h [.int .u64 0] jS;have z:=B.upd0 k0;have k:¬M h.size:=fun hb=>by have:=B.lt _ hb;omega
 simp only[At,cT];generalize hnew h [.int .u64 0] jS=h0 at k0 b z;refine⟨ip b (by simp),?_⟩;have k1:Upd (· =h.size) h0 (hset h0 ⟨h.size,0,none⟩ (.int .u64 (IntKind.wrap .u64 ((e-a:Nat):Int)))):=Upd.hset _ _ rfl
 have v:(hset h0 ⟨h.size,0,none⟩ (.int .u64 (IntKind.wrap .u64 ((e-a:Nat):Int))))[h.size]? =some (.cells #[.int .u64 (IntKind.wrap .u64 ((e-a:Nat):Int))] jS (0,0)):=by
  rw[yo b,jE b];rfl
 have u:=z.updC k1 k;generalize hset h0 ⟨h.size,0,none⟩ (.int .u64 (IntKind.wrap .u64 ((e-a:Nat):Int)))=h1 at k1 v u;refine Sr (by omega) (by omega) fun m S hm2=>⟨by decide,?_⟩
 have wq:IntKind.wrap .i64 (IntKind.wrap .i64 (gj ((e-a:Nat):Int) 4)*2)=(((e-a)/4*2:Nat):Int):=by
  rw[du (by omega),eJ (x:=((e-a:Nat):Int)/4) (by omega),eJ (by omega)];omega
 simp only[Bd];rw[wq];have U:IntKind.wrap .i64 (IntKind.wrap .i64 ((a:Int)+(((e-a)/4*2:Nat):Int))-1)=((a+(e-a)/4*2-1:Nat):Int):=by
  rw[eJ (x:=(a:Int)+_) (by omega),eJ (by omega)];omega
 have w2:IntKind.wrap .i64 (IntKind.wrap .i64 ((a:Int)+(((e-a)/4*2:Nat):Int))+1)=((a+(e-a)/4*2+1:Nat):Int):=by
  rw[eJ (x:=(a:Int)+_) (by omega),eJ (by omega)];omega
 rw[U];refine LoopP.ghost (fun(g:Nat×Array Int) (t:Int) h'=>t=(g.1:Int)∧SA dec M s h' g.2∧PermIn a e d g.2∧Upd M h h'∧(∃n,h'[h.size]? =some (.cells #[.int .u64 n] jS (0,0)))∧a+(e-a)/4*2-1≤g.1∧g.1≤a+(e-a)/4*2+2) (fun g=>a+(e-a)/4*2+2-g.1) (a+(e-a)/4*2-1,d)
  ⟨rfl,u,permIn_refl ..,k0.wide.trans k1 fun x hx=>.inr (by omega),⟨_,v⟩,aj _,by simp only;omega⟩ ?_
 rintro I ⟨i,A⟩ t h2 ⟨L,f,c,w,⟨n2,H⟩,F,E⟩ Q;simp only at L f c F E;subst L;have hz:A.size=d.size:=c.1;refine⟨by decide,?_⟩;rw[w2];refine ax (fun C=>?_) fun X=>O h2 A f c w
 have C:i≤a+(e-a)/4*2+1:=by omega
 refine O1 H fun Y r G y=>?_
 have D:=f.updC y k;have wm:IntKind.wrap .u64 ((m:Int)-1)=((m-1:Nat):Int):=by rw[Zz];omega
 rw[wm];obtain⟨W,V⟩:=and_le_right r (m:=((m-1:Nat):Int)) (by omega) (by omega);generalize IntKind.wrap .u64 ((ao (IntKind.bits .u64) r&&&ao (IntKind.bits .u64) ((m-1:Nat):Int)).toNat:Int)=o at W V;have Z:IntKind.wrap .i64 o=o:=eJ (by omega);refine Join.intro (fun t h'=>h'=Y∧∃q:Nat,t=(q:Int)∧q<e-a) (fun R P=>?_) ?_
 ·show CondP (decide (IntKind.wrap .i64 o≥((e-a:Nat):Int))) _ _
  rw[Z];refine ax (fun T=>P _ _ ⟨rfl,(o-((e-a:Nat):Int)).toNat,?_,by omega⟩) fun T=>P _ _ ⟨rfl,o.toNat,by omega,by omega⟩
  show IntKind.wrap .i64 (o-((e-a:Nat):Int))=_
  rw[eJ (by omega)];omega
 ·rintro t h' ⟨rfl,q,rfl,hq⟩
  have wj:IntKind.wrap .i64 ((a:Int)+(q:Int))=((a+q:Nat):Int):=by rw[eJ (by omega)];omega
  refine D.swap (i:=i) (j:=a+q) rfl wj (by omega) (by omega) fun h5 J p=>?_
  refine Q (i+1,swp A i (a+q)) _ _ ⟨by rw[eJ (by omega)];rfl,J,permIn_trans _ _ _ _ _ c (swp_permIn A a e i (a+q) (by omega) (by omega) (by omega) (by omega) (by omega)),?_,⟨r,p.get G k⟩,by simp only;omega,by simp only;omega⟩ (by simp only;omega)
  exact(w.trans y fun x hx=>.inr (by omega)).tr p
end Go.Proofs
namespace Go.Proofs
open Go Go.Lift Go.Sort
variable {dec:Int→Ch} {M:Nat→Prop} {s:SliceV} {h:ad} {d:Array Int}
theorem XB:SWO (mH dec):=⟨fun x=>woG.irr _,fun x y z a h2=>by
 unfold mH aae at*
 exact decide_eq_true (gD (of_decide_eq_true a) (of_decide_eq_true h2)),fun x y z a h2=>woG.ntr _ _ _ a h2⟩
theorem abF:∀(n:Nat) {a e:Nat} {lim:Int} {h:ad} {d:Array Int} {K:Unit→ad→Prop},e-a=n→SA dec M s h d→a≤e→e≤d.size→Go.Sort.Below (mH dec) a e d→
  (∀h' d',SA dec M s h' d'→PermIn a e d d'→SortedIn (mH dec) a e d'→Upd M h h'→K () h')→HC PG dM [.slice s.a s.len s.cap,.int .i64 a,.int .i64 e,.int .i64 lim,tR] [] K h:=by
 intro n;induction n using Nat.strongRecOn with
 |_ n ih=>
 intro a e lim h d K hn hs ha he hB hk;refine kR s a e lim tR ?_;unfold gZ bE bT az jR bF nY;have hsm:=hs.small;refine LoopP.ghost (fun(g:Nat×Nat×Array Int) (t:Int×Int×Int×Bool×Bool) h'=>t.1=(g.1:Int)∧t.2.1=(g.2.1:Int)∧SA dec M s h' g.2.2∧g.2.2.size=d.size∧(a≤g.1∧g.1≤g.2.1∧g.2.1≤e)∧Go.Sort.Below (mH dec) g.1 g.2.1 g.2.2∧
   (∀R,PermIn g.1 g.2.1 g.2.2 R→SortedIn (mH dec) g.1 g.2.1 R→PermIn a e d R∧SortedIn (mH dec) a e R)∧Upd M h h') (fun g=>g.2.1-g.1) (a,e,d)
  ⟨rfl,rfl,hs,rfl,⟨aj _,ha,aj _⟩,hB,fun R h1 h2=>⟨h1,h2⟩,Upd.refl _ _⟩ ?_
 rintro I ⟨b,c,W⟩ ⟨t1,t2,l1,wb,wp⟩ h1 ⟨N,ht2,A,P,⟨haa,o,Z⟩,X,f,O⟩ hI;simp only at N ht2 A P haa o Z X f;subst N ht2;have v:c≤W.size:=by omega
 have wl:IntKind.wrap .i64 ((c:Int)-(b:Int))=((c-b:Nat):Int):=by rw[eJ (by omega)];omega
 simp only;rw[wl];refine ax (fun hle=>?_) fun hgt=>?_
 ·refine SQ A o v fun h2 w k=>?_
  obtain⟨p1,p2⟩:=insertionSort_holds XB W b c o v;obtain⟨q1,q2⟩:=f _ p1 p2;exact hk _ _ w q1 q2 (O.tr k)
 have hgt:12<c-b:=by omega
 refine CondP.intro (fun _=>?_) fun _=>?_
 ·refine Qg A o v fun h2 w k=>?_
  obtain⟨p1,p2⟩:=heapSort_holds XB W b c o v;obtain⟨q1,q2⟩:=f _ p1 p2;exact hk _ _ w q1 q2 (O.tr k)
 refine Join.intro (fun _ h'=>∃V,SA dec M s h' V∧PermIn b c W V∧Upd M h h') (fun R H=>?_) ?_
 ·refine CondP.intro (fun _=>?_) fun _=>H _ _ ⟨W,A,permIn_refl ..,O⟩
  exact Gg A o v fun h2 V w B k=>H _ _ ⟨V,w,B,O.tr k⟩
 rintro lim2 h2 ⟨V,w,B,k⟩;have hz2:V.size=d.size:=by rw[B.1,P]
 refine JR w (by omega) (by omega) fun h3 p hn1 hpa hpe hs3 hu3=>?_
 refine Join.intro (fun t h'=>∃(q:Nat) (Y:Array Int),t.1=(q:Int)∧b≤q∧q<c∧SA dec M s h' Y∧PermIn b c W Y∧Upd M h h') (fun R H=>?_) ?_
 ·refine CondP.intro (fun _=>?_) fun _=>H _ _ ⟨p,V,rfl,hpa,hpe,hs3,B,k.tr hu3.wide⟩
  refine Pv hs3 (by omega) (by omega) fun h4 T D=>H _ _ ⟨c-1-(p-b),_,?_,by omega,by omega,T,permIn_trans _ _ _ _ _ B (reverseRange_holds V b c o (by omega)),(k.tr hu3.wide).tr D⟩
  show IntKind.wrap .i64 (IntKind.wrap .i64 ((c:Int)-1)-IntKind.wrap .i64 ((p:Int)-(b:Int)))=_
  rw[eJ (x:=(c:Int)-1) (by omega),eJ (x:=(p:Int)-(b:Int)) (by omega),eJ (by omega)];omega
 rintro⟨q1,hint⟩ h4 ⟨q,Y,hq,U,Q,T,G,D⟩;simp only at hq;subst hq;have hz3:Y.size=d.size:=by rw[G.1,P]
 have hB3:Go.Sort.Below (mH dec) b c Y:=X.perm v G;refine Join.intro (fun _ h'=>∃L,SA dec M s h' L∧PermIn b c W L∧Upd M h h') (fun R H=>?_) ?_
 ·refine Join.intro (fun _ h'=>h'=h4) (fun R2 hR2=>CondP.intro (fun _=>CondP.intro (fun _=>hR2 _ _ rfl) fun _=>hR2 _ _ rfl) fun _=>hR2 _ _ rfl) ?_
  rintro _ h5 rfl;refine CondP.intro (fun _=>?_) fun _=>H _ _ ⟨Y,T,G,D⟩
  refine K9 T (by omega) (by omega) fun h6 F y=>?_
  obtain⟨p1,p2⟩:=partialInsertionSort_holds XB Y b c (by omega) (by omega) hB3;refine CondP.intro (fun hb=>?_) fun _=>H _ _ ⟨_,F,permIn_trans _ _ _ _ _ G p1,D.tr y⟩
  obtain⟨r1,r2⟩:=f _ (permIn_trans _ _ _ _ _ G p1) (p2 hb);exact hk _ _ F r1 r2 (D.tr y)
 rintro _ h5 ⟨L,hs5,z,hu5⟩;have hz4:L.size=d.size:=by rw[z.1,P]
 have hB4:Go.Sort.Below (mH dec) b c L:=X.perm v z;refine Join.intro (fun t h'=>SA dec M s h' L∧Upd No h5 h'∧(t=true→0<b∧(mH dec) L[b-1]! L[q]! =false)) (fun R H=>?_) ?_
 ·refine ax (fun h6=>?_) fun _=>H _ _ ⟨hs5,Upd.refl _ _,fun e=>by cases e⟩
  refine hs5.less (i:=b-1) (j:=q) (by rw[eJ (by omega)];omega) rfl (by omega) (by omega) fun hL eL hsL kL heL=>H _ _ ⟨hsL,kL,fun e=>⟨by omega,by rw[heL]at e;simpa using e⟩⟩
 rintro t h6 ⟨F,k6,ht⟩;have y:=hu5.tr k6.wide;refine CondP.intro (fun N=>?_) fun _=>?_
 ·obtain⟨h7,h8⟩:=ht N
  refine V0 F U Q (by omega) fun h9 u S=>?_
  cases hx:partitionEqual (mH dec) L b c q with
  |mk mid d5=>
   rw[hx]at u;obtain⟨m1,m2,m3,m4,m5⟩:=round_eq XB (partitionEqual_holds _) h7 U Q (by omega) hB4 h8 hx;refine hI (mid,c,d5) _ _ ⟨rfl,rfl,u,by simp only;omega,⟨by simp only;omega,m2,Z⟩,m4,fun R r1 r2=>?_,y.tr S⟩ (by simp only;omega)
   obtain⟨x1,x2⟩:=m5 R r1 r2;exact f R (permIn_trans _ _ _ _ _ z x1) x2
 ·refine Z4 F U Q (by omega) fun h9 u S=>?_
  cases hx:partition (mH dec) L b c q with
  |mk mid r=>
   obtain⟨ap,d5⟩:=r;rw[hx]at u;obtain⟨m1,m2,m3,m4,m5,m6,m7⟩:=round_part XB (partition_holds _) U Q (by omega) hB4 hx;simp only at u⊢;refine⟨by decide,?_⟩;have w1:IntKind.wrap .i64 ((mid:Int)-(b:Int))=((mid-b:Nat):Int):=by rw[eJ (by omega)];omega
   have w2:IntKind.wrap .i64 ((c:Int)-(mid:Int))=((c-mid:Nat):Int):=by rw[eJ (by omega)];omega
   have w3:IntKind.wrap .i64 ((mid:Int)+1)=((mid+1:Nat):Int):=by rw[eJ (by omega)];omega
   rw[w1,w2,w3];refine ax (fun _=>?_) fun _=>?_
   ·refine ih (mid-b) (by omega) rfl u m1 (by omega) m4 fun h10 d6 E m C J=>?_
    obtain⟨y1,y2⟩:=m6 d6 m C;have hz6:=m.1;refine hI (mid+1,c,d6) _ _ ⟨rfl,rfl,E,by simp only;omega,⟨by simp only;omega,by simp only;omega,Z⟩,y1,fun R r1 r2=>?_,(y.tr S).tr J⟩ (by simp only;omega)
    obtain⟨x1,x2⟩:=y2 R r1 r2;exact f R (permIn_trans _ _ _ _ _ z x1) x2
   ·refine ih (c-(mid+1)) (by omega) rfl u (by omega) (by omega) m5 fun h10 d6 E m C J=>?_
    obtain⟨y1,y2⟩:=m7 d6 m C;have hz6:=m.1;refine hI (b,mid,d6) _ _ ⟨rfl,rfl,E,by simp only;omega,⟨haa,m1,by simp only;omega⟩,y1,fun R r1 r2=>?_,(y.tr S).tr J⟩ (by simp only;omega)
    obtain⟨x1,x2⟩:=y2 R r1 r2;exact f R (permIn_trans _ _ _ _ _ z x1) x2
theorem Jd{d a:Array Int}(b:PermIn 0 d.size d a):a.toList.Perm d.toList:=by
 have:=b.2.2;have c:a.extract 0 d.size=a:=by rw[←b.1];simp
 rw[c]at this;simpa using this
theorem XE{M:Nat→Prop}{h:ad}{s:SliceV}{L X:List Ch}(p:OwnS Fv 5 cl M h s L)(A:L.Perm X)(w:Gl X)(E:L.length≤100000000)(hM:∀b,M b→b<h.size){K:Unit→ad→Prop}(v:∀h',OwnS Fv 5 cl M h' s X→Upd M h h'→K () h'):
  HC PG cR [.slice s.a s.len s.cap,.func (.func pm) #[] #[]] [] K h:=by
 refine ir s _ ?_;unfold fp;have f:=p.len;rw[Go.IntWalk.u64_in _ (by omega)];refine Sz (by omega) fun D _ _=>?_
 let dec:Int→Ch:=fun i=>L[i.toNat]?.getD (⟨#[]⟩,⟨#[]⟩,⟨#[]⟩,false,false)
 let d:Array Int:=((gh L.length).map fun i:Nat=>(i:Int)).toArray
 have hd:d.toList.map dec=L:=by
  apply List.ext_getElem?;intro i;rw[mf];show(((gh L.length).map fun i:Nat=>(i:Int))[i]?).map dec=_
  rw[mf];by_cases hi:i<L.length
  ·rw[List.getElem?_range hi,af hi]
   show some (L[((i:Int)).toNat]?.getD _)=_
   rw[Int.toNat_natCast,af hi];rfl
  ·rw[lG (by rw[List.length_range];omega),lG (by omega)];rfl
 have B:d.size=L.length:=by simp[d]
 have C:SA dec M s h d:=⟨by rw[hd];exact p,by omega,hM⟩
 have z:((s.len:Nat):Int)=((d.size:Nat):Int):=by rw[B,f]
 rw[z];refine abF (a:=0) (e:=d.size) _ rfl C (aS _) (aj _) (.inl rfl) fun h' c o g y t=>?_
 have k:=Jd g;have u:(c.toList.map dec).Perm L:=by
  have:=k.map dec;rw[hd]at this;exact this
 have x:Srt aae (c.toList.map dec):=by
  unfold Srt;rw[j7,cn];intro i j hi q m;have n:=g.1;have:=y i j (aS _) m (by rw[←n];simpa using q);rw[getElem!_pos c j (by simpa using q),getElem!_pos c i (by simpa using hi)]at this;have this:aae (dec c[j]) (dec c[i])=false:=this;simpa only[Array.getElem_toList]using this
 have:=Ph (u.trans A) x w;subst this;exact v h' o.own t
end Go.Proofs
namespace Go.Proofs
open Go Go.Lift
theorem S8{W W':Nat→Prop}{x n:Hs}{h:ad}{c b:Int}{t u:Tr}{l l':List Pr}(i:TreeIs W h c x t l)(m:TreeIs W' h b n u l')(f:bM l)(k:Fit l)(o:l.length≤60000)(a:bM l')(e:Fit l')(g:l'.length≤60000){K:SliceV×Int→ad→Prop}
  (p:jK t u=false→∀h',Upd No h h'→K (⟨none,0,0⟩,11) h')(d:jK t u=true→∀h' s',OwnS Fv 5 cl (fun y=>h.size≤y) h' s' (jN l l')→Upd No h h'→K (s',0) h'):HC PG vO [yY t,yY u] [.c .slice,.c (.int .i64)] K h:=
 JJ i m f k o a e g (fun _ {_ _ _ _ _} q hM j d=>XE q j (y8 f a) (by have:=j.length_eq;have:=w9 f a;omega) hM d) p d
end Go.Proofs
namespace Go.Proofs
open Go Go.Lift
theorem Few.mono{n m:Nat}{L:List Pr}(f:Few n L)(h:n≤m):Few m L:=⟨f.up,aX f.len h,f.fit⟩
end Go.Proofs
namespace Go.Proofs
open Go Go.Lift
theorem Pz{W:Nat→Prop}{h:ad}{b:Nat}{l:List Pr}(t:RadAt W h b l)(hW:∀y,W y→y<h.size)(hr:bM l)(k:ByteArray){K:ByteArray×Bool→ad→Prop}
  (S:∀h',Upd No h h'→K ((look l k).getD ⟨#[]⟩,(look l k).isSome) h'):HC PG AW [.pointer (some ⟨b,0,none⟩),.string k] [.c .str,.c .bool] K h:=by
 refine QM (some ⟨b,0,none⟩) k ?_;unfold Hm bE bT bK az iU Iq;refine FK (.inr ⟨b,rfl,t⟩) hW fun h2 b2 t2 Z _=>?_
 obtain⟨w,F,r1,r2,r3⟩:=t2.ex;have d:∀v,uQ w F k.data.toList v↔look l k=some v:=fun v=>by
  rw[←lj,r3];constructor
  ·rintro⟨p,hp,e1,rfl⟩
   rw[←tS.1 e1];exact ym hr hp
  ·intro hp;exact⟨_,uA hp,rfl,rfl⟩
 refine LoopP.ghost (fun(g:ByteArray×Nat×ByteArray×Option ByteArray×Fo) (t:ByteArray×Option Addr) h'=>t=(g.1,some ⟨g.2.1,0,none⟩)∧RxN W h' g.2.1 g.2.2.1 g.2.2.2.1 g.2.2.2.2∧gf g.2.2.2.2∧(∀v,uQ g.2.2.2.1 g.2.2.2.2 g.1.data.toList v↔look l k=some v)∧Upd No h h') (fun g=>g.1.size) (k,b2,⟨#[]⟩,w,F) ⟨rfl,r1,r2,d,Z⟩ ?_
 clear d r1 r2 r3 t2;rintro I ⟨kk,c,sl,w,F⟩ t h5 ⟨rfl,r,hc,d,U⟩ hI;simp only at r hc d;simp only[ge];by_cases G:kk=⟨#[]⟩
 ·subst G
  refine ag.2 (Pp r ?_);have e:look l k=w:=Option.ext fun v=>by
   rw[←d v];constructor
   ·rintro(⟨_,h⟩|h)
    ·exact h
    ·exact absurd rfl (qR hc h)
   ·intro h;exact .inl ⟨rfl,h⟩
  rw[e]at S;exact S _ U
 ·rw[decide_eq_false G]
  refine aw.2 ?_;have u:kk.data.toList≠[]:=fun e=>G (by cases kk;exact congrArg nC (Array.toList_inj.1 e))
  obtain⟨c0,Y,R⟩:=F0 u;refine⟨c0,Int.le_refl _,Y,?_⟩;have hr0:=r;obtain⟨val,s,ow,ks,hb,_,hs,hcap,hF⟩:=r;have hL:=lW.1 hF;have D:=eP.1 hc;have o:(∀v,¬tg F kk.data.toList v)→K ((⟨#[]⟩:ByteArray),false) h5:=fun A=>by
   have e:look l k=none:=by
    cases e:look l k with
    |none=>rfl
    |some v=>
     rcases(d v).2 e with⟨h,_⟩|h
     ·exact absurd h u
     ·exact absurd h (A v)
   rw[e]at S;exact S _ U
  refine FM hr0 hc (c:=c0.toNat) (UInt8.toNat_lt _) fun i ok hil O L H=>?_
  rw[R]at O L H;cases ok with
  |false=>
   refine aw.2 (o fun v d=>?_)
   obtain⟨n',E,e,_⟩:=tJ hc d;obtain⟨j,T,rfl⟩:=List.getElem_of_mem E;rcases bR j i with hl|hl
   ·have:=O j T hl;omega
   ·have h1:=L j T hl
    have h2:=L i (by omega) (aj _);rcases bR i j with N|N
    ·have h3:=cn.1 D.1 i j (by omega) T N
     omega
    ·have:i=j:=by omega
     subst this;have:=H.2 ⟨T,e⟩;cases this
  |true=>
   obtain⟨hi,M⟩:=H.1 rfl;refine ag.2 ⟨_,rfl,s,dU (i:=3) hb,?_⟩;obtain⟨kb,Q,X,z,B⟩:=hL.at hi;have x:F.toL[i]∈F.toL:=bh hi;have C:=D.2 _ x;obtain⟨a,ha,_,V⟩:=hs.at0 X;have J:=hs.len;rw[hL.1]at J;have f:∀v,tg F kk.data.toList v↔wO F.toL[i] kk.data.toList v:=fun v=>by
    constructor
    ·intro d
     obtain⟨n',E,e,hN⟩:=tJ hc d;rw[←zE hc E x (by omega)];exact hN
    ·intro d;exact gM.2 ⟨_,x,d⟩
   refine⟨⟨by simp only;omega,by simp only;omega⟩,a,ha,some ⟨kb,0,none⟩,V,_,rfl,?_⟩
   obtain⟨kval,kss,kow,kks,P,_⟩:=id B;generalize F.toL[i]=m at z B C f M;obtain⟨lab,wk,Fk⟩:=m;simp only at z B C M P;refine⟨Q,dU (i:=0) P,YD (fun q n=>?_) fun A=>?_⟩
   ·rw[z]at n
    have hlne:lab.length≠0:=fun e=>C.1 (aA.1 e)
    have hrl:q.size<kk.size:=by
     rw[←mF q,←mF kk,n,List.length_append];omega
    refine ag.2 (hI (q,kb,Q,wk,Fk) _ _ ⟨rfl,B,C.2.2,fun v=>?_,U⟩ hrl)
    rw[←d v];constructor
    ·intro h;exact .inr ((f v).2 ⟨_,n,h⟩)
    ·rintro(⟨h,_⟩|h)
     ·exact absurd h u
     ·obtain⟨r',e,hr'⟩:=(f v).1 h
      simp only at e;rw[n]at e;rw[List.append_cancel_left e];exact hr'
   ·rw[z]at A
    refine aw.2 (o fun v h=>?_)
    obtain⟨r',e,_⟩:=(f v).1 h;exact A r' e
theorem ZI{W:Nat→Prop}{x:Hs}{h:ad}{a:Int}{t:Tr}{l:List Pr}(i:TreeIs W h a x t l)(g:∀y,W y→y<h.size)(f:bM l)(j:l.length≤1000000)(k:ByteArray){K:Sd→ad→Prop}(e:∀h',Upd No h h'→K ((look l k).getD ⟨#[]⟩,(look l k).isSome) h'):HC PG uY [yY t,.string k] [.c .str,.c .bool] K h:=by
 refine HM t k ?_;unfold zY aI cg aB wN o9 Am;rcases i with⟨_,b,rfl,t⟩|⟨_,b,rfl,t⟩
 ·refine aP fun m b1 k1=>⟨_,vc b1 0,ag.2 ⟨_,lJ b1 1 0,_,lJ b1 1 1,_,lJ b1 1 2,_,vc b1 4,?_⟩⟩
  exact QC (TrieAt.upd0 k1 t) (fun y d=>aG (g y d) k1.size) f j k fun h2 c=>e h2 (k1.tr c)
 ·refine aP fun m b1 k1=>⟨_,vc b1 0,aw.2 ⟨_,vc b1 5,?_⟩⟩
  exact Pz (t.upd0 k1) (fun y d=>aG (g y d) k1.size) f k fun h2 c=>e h2 (k1.tr c)
end Go.Proofs
namespace Go.Proofs
open Go Go.Lift
theorem UO{W:Nat→Prop}{x:Hs}{h:ad}{d:Int}{t:Tr}{l:List Pr}(i:TreeIs W h d x t l)(q:∀y,W y→y<h.size)(p:bM l)(o:l.length≤1000000)(k:ByteArray){K:Sd→ad→Prop}(m:∀h',Upd No h h'→K (As (look l k)) h'):HC PG w6 [yY t,.string k] [.agg [.str,.bool]] K h:=by
 refine QX t k ?_;unfold Hv aI ae aB df th o9 av cU DK xN;refine aP fun u b1 k1=>aP fun h2 b2 j=>?_
 have b:=j.get0 b1;have a:=k1.tr j;refine⟨_,vc b 0,_,vc b 1,_,vc b 2,_,vc b 3,_,vc b 4,_,vc b 5,?_⟩;refine ZI (i.upd0 a) (fun y s=>aG (q y s) a.size) p o k fun v f=>?_
 refine cF (c:= [.string (⟨#[]⟩:ByteArray),.bool false]) (vs:=abt (As (look l k))) (f.get0 b2) rfl fun n g e=>?_
 exact⟨_,vc g 0,_,vc g 1,m n ((a.tr f).own e k1.size)⟩
theorem aac{W:Nat→Prop}{x:Hs}{h:ad}{b:Int}{t:Tr}{l:List Pr}(i:TreeIs W h b x t l)(H:∀y,W y→y<h.size)(J:bM l)(T:Fit l)(I:l.length≤1000000)(k:ByteArray)(o:Option ByteArray)(w:k.size≤256)(C:(o.getD ⟨#[]⟩).size≤4096){K:Tr→ad→Prop}
  (N:∀h' a,TreeIs W h' b x a (K5 l k o)→Upd No h h'→K a h'):HC PG wZ [yY t,.string k,.agg #[.string (As o).1,.bool (As o).2]] [.agg [.int .i64,.int .u64,.int .u64,.int .u64,.ptr,.ptr]] K h:=by
 refine Hi t k (As o) ?_;unfold Bj aI ae aB df th zP o9 av Fz rC cU xN;refine aP fun M b1 k1=>aP fun h2 b2 F=>aP fun p b3 A=>?_
 have V:=aY b1;have Z:=aY b2;have z3:=aY b3;have Y:h.size≤M.size:=k1.size;have X:M.size≤h2.size:=F.size;have s3:=A.size;have e:=(k1.tr F).tr A;have d:=A.get0 (F.get0 b1);have G:=A.get0 b2;have D:Pro W h p h.size:=.inr (by omega);have B:Pro W h p h2.size:=.inr (by omega);refine Join.intro (fun _ h'=>∃a,TreeIs (Pro W h p) h' b x a (K5 l k o)∧h'[h.size]? =some (.cells (kg a).toArray bo (0,0))∧h'[h2.size]? =some (.cells (kg BM).toArray bo (0,0))∧Upd (· =h.size) p h') (fun R S=>?_) ?_
 ·have z:∀{f:ad} {a:Tr},Upd No p f→TreeIs (Pro W h p) f b x a (K5 l k o)→rE f (some (ay h)) 0 (kg a)∧At (fS f (ay h) 0 (kg a)) (fun L=>R () L):=fun{f a} j u=>
   cF (c:=kg t) (vs:=kg a) (j.get0 d) rfl fun L Q g=>S _ _ ⟨a,u.updM g fun y m=>.inl (by have m:y=h.size:=m;rw[m];exact D),Q,g.oth (j.get0 b3) (by omega),j.wide.tr g⟩
  cases o with
  |some v=>
   refine⟨true,vc G 1,aw.2 ⟨_,vc d 0,_,vc d 1,_,vc d 2,_,vc d 3,_,vc d 4,_,vc d 5,v,vc G 0,?_⟩⟩;exact IB (i.pro e) (Pro.lt H e) J I (k,v) w C fun f a u _ j=>z j u
  |none=>
   refine⟨false,vc G 1,ag.2 ⟨_,vc d 0,_,vc d 1,_,vc d 2,_,vc d 3,_,vc d 4,_,vc d 5,?_⟩⟩;exact GK (i.pro e) (Pro.lt H e) J T I k w fun f a u _ j=>z j u
 ·rintro _ h6 ⟨a,O,n,U,E⟩
  refine⟨_,vc n 0,_,vc n 1,_,vc n 2,_,vc n 3,_,vc n 4,_,vc n 5,?_⟩;refine cF (c:=kg BM) (vs:=kg a) U rfl fun P q s=>?_
  refine⟨_,vc q 0,_,vc q 1,_,vc q 2,_,vc q 3,_,vc q 4,_,vc q 5,N P a ((O.updM s fun y m=>.inl (by have m:y=h2.size:=m;rw[m];exact B)).less Pro.sub) ?_⟩
  exact(e.own E (aj _)).own s (by omega)
def Vh(k:ByteArray)(o:Option ByteArray):Prop:=∀{W:Nat→Prop} {x:Hs} {h:ad} {kind:Int} {t:Tr} {l:List Pr},TreeIs W h kind x t l→(∀y,W y→y<h.size)→bM l→Fit l→l.length≤1000000→k.size≤256→(o.getD ⟨#[]⟩).size≤4096→∀{K:Tr→ad→Prop},
 (∀h' t',TreeIs W h' kind x t' (K5 l k o)→Upd No h h'→K t' h')→HC PG wZ [yY t,.string k,.agg #[.string (As o).1,.bool (As o).2]] [.agg [.int .i64,.int .u64,.int .u64,.int .u64,.ptr,.ptr]] K h
theorem act(k:ByteArray)(o:Option ByteArray):Vh k o:=fun i f e a b c h2 _ d=>aac i f e a b k o c h2 d
theorem abs(k v:ByteArray):Vh k (some v):=by
 intro W x h A t l i F I U H q p K D;refine Hi t k (As (some v)) ?_;unfold Bj aI ae aB df th zP o9 av Fz rC cU xN;refine aP fun C b1 k1=>aP fun h2 b2 u=>aP fun z b3 j=>?_
 have M:=aY b1;have Q:=aY b2;have S:=aY b3;have P:h.size≤C.size:=k1.size;have O:C.size≤h2.size:=u.size;have V:=j.size;have b:=(k1.tr u).tr j;have a:=j.get0 (u.get0 b1);have B:=j.get0 b2;have s:Pro W h z h.size:=.inr (by omega);have o:Pro W h z h2.size:=.inr (by omega);refine Join.plain ⟨true,vc B 1,aw.2 ⟨_,vc a 0,_,vc a 1,_,vc a 2,_,vc a 3,_,vc a 4,_,vc a 5,v,vc B 0,?_⟩⟩
 refine IB (i.pro b) (Pro.lt F b) I H (k,v) q p fun N n J _ m=>?_
 refine cF (c:=kg t) (vs:=kg n) (m.get0 a) rfl fun T e w=>?_
 have E:=J.updM w fun y d=>.inl (by have d:y=h.size:=d;rw[d];exact s)
 have L:=w.oth (m.get0 b3) (by omega);refine⟨_,vc e 0,_,vc e 1,_,vc e 2,_,vc e 3,_,vc e 4,_,vc e 5,?_⟩;refine cF (c:=kg BM) (vs:=kg n) L rfl fun G f g=>?_
 have R:=m.size;refine⟨_,vc f 0,_,vc f 1,_,vc f 2,_,vc f 3,_,vc f 4,_,vc f 5,D G n ((E.updM g fun y d=>.inl (by have d:y=h2.size:=d;rw[d];exact o)).less Pro.sub) ?_⟩
 exact((b.tr m).own w (aj _)).own g (by omega)
def ab6(B T:List Pr):Prop:=∀{W W':Nat→Prop} {x x':Hs} {h:ad} {kind kind':Int} {t u:Tr},TreeIs W h kind x t B→TreeIs W' h kind' x' u T→∀{K:SliceV×Int→ad→Prop},(jK t u=false→∀h',Upd No h h'→K (⟨none,0,0⟩,11) h')→(jK t u=true→∀h' s',OwnS Fv 5 cl (fun y=>h.size≤y) h' s' (jN B T)→Upd No h h'→K (s',0) h')→HC PG vO [yY t,yY u] [.c .slice,.c (.int .i64)] K h
theorem adP{n m:Nat}{B T:List Pr}(b:Few n B)(a:Few m T)(f:n≤1000)(hm:m≤1000):ab6 B T:=fun i c _ d e=>S8 i c b.up b.fits (by have:=b.len;omega) a.up a.fits (by have:=a.len;omega) d e
theorem abU{n m:Nat}{B T:List Pr}(c:Few n B)(b:Few m T)(g:n≤1000)(hm:m≤1000)(a:(jN B T).length≤12):ab6 B T:=fun i d _ e f=>Ws i d c.up c.fits (by have:=c.len;omega) b.up b.fits (by have:=b.len;omega) (fun _=>a) e f
theorem Jj{p:Int}(c:0≤p)(b:p≤3):Mw p≠⟨#[]⟩:=by
 unfold Mw;have a:p=0∨p=1∨p=2∨p=3:=by omega
 rcases a with rfl|rfl|rfl|rfl<;>decide
abbrev xW(c:Cf):List Value:= [.string c.1,.string c.2.1.1,.bool c.2.1.2,.string c.2.2.1.1,.bool c.2.2.1.2,.string c.2.2.2.1,.bool c.2.2.2.2]
abbrev Zt:Cf:=(⟨#[]⟩,(⟨#[]⟩,false),(⟨#[]⟩,false),(⟨#[]⟩,false))
theorem JS(c:Cf):(xW c).length=7∧0<7:=⟨rfl,by omega⟩
theorem M6{t:TypeId}{M:Nat→Prop}{h:ad}{so:SliceV}{out:List Cf}{c:Cf}{K:SliceV→ad→Prop}(g:OwnS xW 7 t M h so out)(hM:∀b,h.size≤b→M b)(k:out.length+1≤100000000)
  (f:∀s' h',OwnS xW 7 t M h' s' (out++ [c])→Upd M h h'→K s' h'):
  At (hnew h (xW c) t) fun a=>∃xs,SRow a (some (ay h)) (1*7) xs∧AppP (some (xW Zt)) 7 88 t so.a so.len so.cap 1 xs a K:=by
 refine aP fun a b1 k1=>?_
 have j:=aY b1;have i:OwnS xW 7 t (fun _=>True) a ⟨some (ay h),1,1⟩ [c]:=⟨rfl,JS,aj _,.inr ⟨h.size,[],rfl,trivial,b1,rfl⟩⟩
 refine⟨_,(i.sl (W:=No) fun _ _ _ h=>h).srow,?_⟩
 refine AppP.own (ys:= [c]) (g.upd k1 fun _ _ h=>h) rfl rfl rfl rfl (by omega) (by simp only[List.length_singleton];omega) (hM _ k1.size) fun s' h' d e=>?_
 exact f s' h' d (k1.wide.tr e)
set_option maxHeartbeats 1000000 in
theorem G4{W:Nat→Prop}{x:Hs}{h:ad}{n p:Int}{tb to tt:Tr}{B O T:List Pr}{nb no nt:Nat}(ib:TreeIs W h n x tb B)(io:TreeIs W h n x to O)(it:TreeIs W h n x tt T)(hW:∀y,W y→y<h.size)(fB:Few nb B)(fO:Few no O)(fT:Few nt T)(lb:nb≤1000)(lo:no≤1000)(lt:nt≤1000)
  (hp0:0≤p)(hp1:p≤3)(hdf:ab6 B T)(hset:∀c∈jN B T,Vh c.1 (tk B O T p c.1).1){K:Tr×SliceV×Int→ad→Prop}
  (hk0:p=0→tQ B O T p≠[]→∀h' s',OwnS xW 7 dQ (fun y=>h.size≤y) h' s' ((tQ B O T p).map (Hd B O T))→Upd No h h'→K (to,s',8) h')
  (hk:(p=0→tQ B O T p= [])→∀h' t' s',TreeIs W h' n x t' (vR B O T p)→OwnS xW 7 dQ (fun y=>h.size≤y) h' s' ((tQ B O T p).map (Hd B O T))→Upd No h h'→K (t',s',0) h'):
  HC PG qW [yY tb,yY to,yY tt,.int .i64 p] [.agg [.int .i64,.int .u64,.int .u64,.int .u64,.ptr,.ptr],.c .slice,.c (.int .i64)] K h:=by
 refine Ki tb to tt p ?_;unfold DD bT aI ae aB df nv th zP o9 az av Fz bF cU Rs lH Ir DK xN DR DJ;refine aP fun h1 b1 k1=>aP fun h2 b2 k2=>aP fun h3 b3 k3=>aP fun h4 b4 k4=>?_
 have z1:=aY b1;have z2:=aY b2;have z3:=aY b3;have z4:=aY b4;have s1:h.size≤h1.size:=k1.size;have s2:h1.size≤h2.size:=k2.size;have s3:h2.size≤h3.size:=k3.size;have s4:=k4.size;have k04:=((k1.tr k2).tr k3).tr k4;have c0:=k4.get0 (k3.get0 (k2.get0 b1));have c1:=k4.get0 (k3.get0 b2);have c2:=k4.get0 b3;refine PZ ?_;rw[ge,decide_eq_false (Jj hp0 hp1)];refine ag.2 ?_
 refine Join.intro (fun t h'=>t=false∧Upd No h4 h') (fun R Y=>?_) ?_
 ·refine⟨_,vc c0 0,_,vc c0 1,_,vc c0 2,_,vc c0 3,_,vc c0 4,_,vc c0 5,_,vc c1 0,_,vc c1 1,_,vc c1 2,_,vc c1 3,_,vc c1 4,_,vc c1 5,?_⟩
  refine Ap (t:=tb) (u:=to) fun h5 k5=>?_
  rw[FY ib io];have X:=k5.get0 c0;have V:=k5.get0 c2;refine ag.2 ⟨_,vc X 0,_,vc X 1,_,vc X 2,_,vc X 3,_,vc X 4,_,vc X 5,_,vc V 0,_,vc V 1,_,vc V 2,_,vc V 3,_,vc V 4,_,vc V 5,?_⟩;refine Ap (t:=tb) (u:=tt) fun h6 k6=>?_
  rw[FY ib it];exact Y _ _ ⟨rfl,k5.tr k6⟩
 rintro t h50 ⟨rfl,Z⟩;have X:=Z.get0 c0;have d1:=Z.get0 c1;have V:=Z.get0 c2;have d3:=Z.get0 b4;have k050:=k04.tr Z;have s50:=Z.size;have nB:=fB.len;have nO:=fO.len;have nT:=fT.len;refine ag.2 ⟨_,vc X 0,_,vc X 1,_,vc X 2,_,vc X 3,_,vc X 4,_,vc X 5,_,vc V 0,_,vc V 1,_,vc V 2,_,vc V 3,_,vc V 4,_,vc V 5,?_⟩;refine hdf (ib.upd0 k050) (it.upd0 k050) (fun e=>by rw[FY ib it]at e;cases e) fun _ G s77 hs77 k77=>?_
 have lC:=w9 fB.up fT.up;have at30:=GO fB fT;have hcC:∀c∈jN B T,(c.1,(c.2.1,c.2.2.2.1),As (look O c.1),(c.2.2.1,c.2.2.2.2))=Hd B O T c.1:=fun c hc=>by
  have e:=(YJ fB.up fT.up hc).1;unfold Hd As;rw[congrArg (·.2.1) e,congrArg (·.2.2.1) e,congrArg (·.2.2.2.1) e,congrArg (·.2.2.2.2) e]
 have hsetC:∀i (hi:i<(jN B T).length),Vh (jN B T)[i].1 (tk B O T p (jN B T)[i].1).1:=fun i hi=>hset _ (bh hi)
 have hmem:∀i (hi:i<(jN B T).length),(jN B T)[i]∈jN B T:=fun i hi=>bh hi
 have hconK:HK B O T p (jN B T)=tQ B O T p:=rfl;have hmrg:tH B O T p O (jN B T)=vR B O T p:=rfl;have fM:∀i,Few (no+((jN B T).take i).length) (tH B O T p O ((jN B T).take i)):=fun i=>CZ fB fO fT (fun c hc=>(at30 c (List.mem_of_mem_take hc)).1) fO
 clear hset;generalize jN B T=C at hs77 lC at30 hcC hmem hconK hmrg fM hsetC;have hsl:=hs77.within.sl (W:=fun y=>G.size≤y) fun y d _ hw=>by omega
 have hlen:s77.len=C.length:=hs77.len;have e1:=k77.get0 d1;have e3:=k77.get0 d3;have hz77:=k77.size;refine⟨_,vc e1 0,_,vc e1 1,_,vc e1 2,_,vc e1 3,_,vc e1 4,_,vc e1 5,?_⟩;refine AD (t:=to) fun F b85 k85=>?_
 have z85:=aY b85;have s85:=k85.size;have k085:=(k050.tr k77).tr k85;have f1:=k85.get0 e1;have f3:=k85.get0 e3;have hPo:Pro W h F G.size:=.inr (by omega);have hP3:Pro W h F h3.size:=.inr (by omega);have hWP:=Pro.lt hW k085;refine LoopP.ghost (fun(g:Nat×(Nat→Prop)) (t:SliceV×Int) h'=>t.2=(g.1:Int)∧g.1≤C.length∧OwnS xW 7 dQ g.2 h' t.1 ((HK B O T p (C.take g.1)).map (Hd B O T))∧(∀y,g.2 y→F.size≤y∧y<h'.size)∧(∃tv,TreeIs (fun y=>Pro W h F y∨g.2 y) h' n x tv (tH B O T p O (C.take g.1))∧h'[G.size]? =some (.cells (kg tv).toArray bo (0,0)))∧Upd (· =G.size) F h') (fun g=>C.length-g.1) (0,No)
  ⟨rfl,aS _,OwnS.nil JS,fun _ h=>h.elim,⟨to,(io.pro k085).less fun y d=>.inl (d.elim id fun h=>h.elim),b85⟩,Upd.refl _ _⟩ ?_
 rintro I ⟨i,S⟩ ⟨sv,ti⟩ h88 ⟨e,hi,ho,hS,⟨tv,iv,bv⟩,hu⟩ hI;simp only at e hi ho hS iv;subst e;have g1:=hu.get f1 (by show ¬h1.size=G.size;omega);have g3:=hu.get f3 (by show ¬h3.size=G.size;omega);have s88:=hu.size;have k088:Upd No h h88:=k085.own hu (by omega);refine ax (fun w=>?_) fun hge=>?_
 ·have w:i<C.length:=by simp only at w;omega
  obtain⟨a,ha,_,hv⟩:=((hsl.upd k85 fun _ h=>h.elim).upd hu fun y d=>.inl (by have d:y=G.size:=d;omega)).at (af w)
  refine⟨⟨by simp only;omega,by simp only;omega⟩,a,ha,_,hv 0 _ rfl,_,hv 1 _ rfl,_,hv 2 _ rfl,_,hv 3 _ rfl,_,hv 4 _ rfl,?_⟩
  have fm:=fM i;have fml:=fm.len;rw[aQ]at fml;have hcon:(HK B O T p (C.take i)).length≤C.length:=aX Qy (by rw[aQ];omega);have hIc:=fun S' t h'=>hI (i+1,S') t h'
  simp only[PX w,Wy w,cO]at hIc;have hceq:=hcC _ (hmem i w);have hc30:=(at30 _ (hmem i w)).1;have hsc:= @hsetC i w;clear hI;generalize C[i]=c at hv hceq hc30 hIc hsc;refine acD (c:=c) fun h96 z k96=>?_
  have s96:=k96.size;have z96:=aY z;have p1:=k96.get0 g1;have k096:=k088.tr k96;have ig:∀{h'},Upd No h96 h'→TreeIs W h' n x to O:=fun k=>io.upd0 (k096.tr k)
  have hWg:∀{h'},Upd No h96 h'→∀y,W y→y<h'.size:=fun k y d=>aG (hW y d) (k096.tr k).size
  refine Join.intro (fun t h'=>∃b,t=⟨b,0,none⟩∧h'[b]? =some (.cells (xW (Hd B O T c.1)).toArray dQ (0,0))∧Upd No h96 h') (fun R Y=>?_) ?_
  ·rw[←hceq]at Y
   refine⟨c.1,vc z 0,c.2.1,vc z 1,c.2.2.2.1,vc z 3,_,vc p1 0,_,vc p1 1,_,vc p1 2,_,vc p1 3,_,vc p1 4,_,vc p1 5,c.1,vc z 0,c.2.2.1,vc z 2,c.2.2.2.2,vc z 4,?_,?_⟩
   ·refine UO (ig (Upd.refl _ _)) (hWg (Upd.refl _ _)) fO.up (by omega) c.1 fun h110 k110=>?_
    have q:=k110.get0 z;refine⟨vc q 4,vc q 2,vc q 3,vc q 1,vc q 0,aP fun h111 b111 k111=>?_⟩
    have q':=k111.get0 q;refine⟨vc q' 4,vc q' 2,vc q' 3,vc q' 1,vc q' 0,?_⟩;refine cF (c:=xW Zt) (vs:=xW (c.1,(c.2.1,c.2.2.2.1),As (look O c.1),(c.2.2.1,c.2.2.2.2))) b111 rfl fun h112 b112 hu112=>Y _ _ ⟨_,rfl,b112,(k110.tr k111).own hu112 k110.size⟩
   ·refine aP fun h149 b149 H=>?_
    have q:=H.get0 z;have p2:=H.get0 p1;refine⟨vc q 4,vc q 2,vc q 0,⟨vc p2 0,vc p2 1,vc p2 2,vc p2 3,vc p2 4,vc p2 5⟩,vc q 3,vc q 1,vc q 0,?_⟩;refine UO (ig H) (hWg H) fO.up (by omega) c.1 fun h151 k151=>?_
    have q':=k151.get0 q;refine⟨vc q' 4,vc q' 2,vc q' 3,vc q' 1,vc q' 0,?_⟩;refine cF (c:=xW Zt) (vs:=xW (c.1,(c.2.1,c.2.2.2.1),As (look O c.1),(c.2.2.1,c.2.2.2.2))) (k151.get0 b149) rfl fun P U hu152=>Y _ _ ⟨_,rfl,U,(H.tr k151).own hu152 (aj _)⟩
  rintro _ h142 ⟨bx,rfl,v,k142⟩;refine⟨_,lJ v 1 0,_,lJ v 1 1,_,lJ v 3 0,_,lJ v 3 1,_,lJ v 5 0,_,lJ v 5 1,?_⟩;refine Ya (b:=As (look B c.1)) (o:=As (look O c.1)) (t:=As (look T c.1)) fun h150 N=>?_
  rw[Uk];have hok:∀r,vn (look B c.1) (look O c.1) (look T c.1) p=r→tk B O T p c.1=r:=fun r e=>e
  have hsz:((tk B O T p c.1).1.getD ⟨#[]⟩).size≤30:=by
   unfold tk;rcases L8 (look B c.1) (look O c.1) (look T c.1) p with e|e|e
   ·rw[e];exact pd fB _
   ·rw[e];exact pd fO _
   ·rw[e];exact pd fT _
  have htk:vn (look B c.1) (look O c.1) (look T c.1) p=tk B O T p c.1:=rfl;rw[htk];generalize tk B O T p c.1=tkc at hIc hsz hsc;refine aaZ (s:=As tkc.1) fun P U k152=>?_
  have z152:=aY U;have f:=((k96.tr k142).tr N).tr k152;have k96152:=(k142.tr N).tr k152;have s150:h88.size≤h150.size:=((k96.tr k142).tr N).size;have s152:=f.size;have bv152:=f.get0 bv;have b96':=k96152.get0 z;have m:=(N.tr k152).get0 v;have iv152:=iv.upd0 f;refine Join.intro (fun t h'=>∃S',OwnS xW 7 dQ S' h' t ((HK B O T p (C.take i)).map (Hd B O T)++(if tkc.2=true then[]else[c.1]).map (Hd B O T))∧(∀y,S' y→F.size≤y∧y<h'.size)∧TreeIs (fun y=>Pro W h F y∨S' y) h' n x tv (tH B O T p O (C.take i))∧Upd S P h') (fun R Y=>?_) ?_
  ·refine CondP.intro (fun e=>?_) fun e=>?_
   ·have e2:tkc.2=false:=by simpa using e
    rw[e2,if_neg Bool.false_ne_true]at Y;refine⟨_,vc m 0,_,vc m 1,_,vc m 2,_,vc m 3,_,vc m 4,_,vc m 5,_,vc m 6,?_⟩;refine M6 (c:=Hd B O T c.1) (M:=fun y=>S y∨P.size≤y) ((ho.upd f fun _ _ h=>h).more fun _ h=>.inl h) (fun _ h=>.inr h) (by rw[cC];omega) fun s163 h164 ho164 L=>?_
    have s164:=L.size;refine Y _ _ ⟨_,ho164.within,fun y d=>⟨?_,d.2⟩,?_,L.mono fun y d=>d⟩
    ·rcases d.1 with h|h
     ·exact(hS y h).1
     ·omega
    ·refine TreeIs.less (fun y d=>?_) ((iv152.less (W':=fun y=>Pro W h F y∨(S y∨P.size≤y)) fun y d=>?_).updM L fun y d=>.inl (.inr d))
     ·exact .inl (d.imp id fun h=>h.1)
     ·rcases d with h|h|h
      ·exact .inl (.inl h)
      ·exact .inl (.inr h)
      ·exact .inr h
   ·have e2:tkc.2=true:=by simpa using e
    rw[e2,if_pos rfl,List.map_nil,List.append_nil]at Y;exact Y _ _ ⟨S,ho.upd f fun _ _ h=>h,fun y d=>⟨(hS y d).1,by have:=(hS y d).2;omega⟩,iv152,Upd.refl _ _⟩
  rintro sv' h166 ⟨S',ho',hS',it',hu'⟩;have s166:=hu'.size;have nS:∀y,S y→F.size≤y∧y<h88.size:=hS;have j:=hu'.get bv152 fun hx=>by have:=nS _ hx;omega
  have b96'':=hu'.get b96' fun hx=>by have:=nS _ hx;omega
  have b152':=hu'.get U fun hx=>by have:=nS _ hx;omega
  refine⟨_,vc j 0,_,vc j 1,_,vc j 2,_,vc j 3,_,vc j 4,_,vc j 5,c.1,vc b96'' 0,(As tkc.1).1,vc b152' 0,(As tkc.1).2,vc b152' 1,?_⟩;refine hsc it' (fun y d=>d.elim (fun h=>aG (hWP y h) (by omega)) fun h=>(hS' y h).2) fm.up fm.fits (by omega) (by omega) (by omega) fun h177 t' i177 Q=>?_
  have s177:=Q.size;refine cF (c:=kg tv) (vs:=kg t') (Q.get0 j) rfl fun h178 b178 E=>?_
  have s178:=E.size;simp only;rw[mg w (by omega)];refine hIc S' _ _ ⟨rfl,w,(ho'.upd Q fun _ _ h=>h).upd E fun y d e=>?_,fun y d=>⟨(hS' y d).1,by have:=(hS' y d).2;omega⟩,⟨t',i177.updM E fun y d=>.inl (.inl (by have d:y=G.size:=d;rw[d];exact hPo)),b178⟩,?_⟩ (by omega)
  ·have e:y=G.size:=e
   have:=(hS' y d).1;omega
  ·refine((hu.tr f.wide).trans hu' fun y d=>.inr (nS y d).1).tr ?_
   exact Q.wide.tr E
 ·have hiN:i=C.length:=by simp only at hge;omega
  subst hiN;rw[List.take_length]at ho iv;rw[hconK]at ho;rw[hmrg]at iv;have hsvl:=ho.len;rw[cC]at hsvl;have hb:(tQ B O T p= [])↔sv.len=0:=by rw[hsvl];exact aA.symm
  have ho2:OwnS xW 7 dQ (fun y=>h.size≤y∧y≠h3.size) h88 sv ((tQ B O T p).map (Hd B O T)):=ho.more fun y d=>by have:=(hS y d).1;omega
  refine Join.intro (fun t h'=>t=(decide (p=0)&&decide (sv.len>0))∧h'=h88) (fun R Y=>?_) ?_
  ·refine CondP.intro (fun e=>Y _ _ ⟨?_,rfl⟩) fun e=>Y _ _ ⟨?_,rfl⟩
   ·have e:p=0:=by simpa using e
    rw[decide_eq_true e,nW,decide_eq_decide];simp only;omega
   ·have e:p≠0:=by simpa using e
    rw[decide_eq_false e,Bool.false_and]
  rintro t h' ⟨rfl,rfl⟩;refine CondP.intro (fun e=>?_) fun e=>?_
  ·have e:p=0∧sv.len>0:=by simpa using e
   refine⟨_,vc g1 0,_,vc g1 1,_,vc g1 2,_,vc g1 3,_,vc g1 4,_,vc g1 5,?_⟩;refine cF (c:=kg BM) (vs:=kg to) g3 rfl fun h198 D hu198=>?_
   refine⟨_,vc D 0,_,vc D 1,_,vc D 2,_,vc D 3,_,vc D 4,_,vc D 5,?_⟩;exact hk0 e.1 (fun hc=>by have:=hb.1 hc;omega) h198 sv ((ho2.upd hu198 fun y d e=>d.2 e).more fun y d=>d.1) (k088.own hu198 (by omega))
  ·have e:p=0→sv.len=0:=fun hp=>by
    rw[decide_eq_true hp,nW]at e;have:=of_decide_eq_false e;omega
   refine⟨_,vc bv 0,_,vc bv 1,_,vc bv 2,_,vc bv 3,_,vc bv 4,_,vc bv 5,?_⟩;refine cF (c:=kg BM) (vs:=kg tv) g3 rfl fun h211 A J=>?_
   refine⟨_,vc A 0,_,vc A 1,_,vc A 2,_,vc A 3,_,vc A 4,_,vc A 5,?_⟩;exact hk (fun hp=>hb.2 (e hp)) h211 tv sv ((iv.updM J fun y d=>.inl (.inl (by have d:y=h3.size:=d;rw[d];exact hP3))).less fun y d=>.inl (.inl (.inl d))) ((ho2.upd J fun y d e=>d.2 e).more fun y d=>d.1) (k088.own J (by omega))
theorem Su{W:Nat→Prop}{x:Hs}{h:ad}{a p:Int}{tb to f:Tr}{B O T:List Pr}{e no j:Nat}(m:TreeIs W h a x tb B)(t:TreeIs W h a x to O)(q:TreeIs W h a x f T)(o:∀y,W y→y<h.size)(k:Few e B)(s:Few no O)(g:Few j T)(i:e≤1000)(lo:no≤1000)(lt:j≤1000)
  (c:0≤p)(d:p≤3){K:Tr×SliceV×Int→ad→Prop}
  (b:p=0→tQ B O T p≠[]→∀h' s',OwnS xW 7 dQ (fun y=>h.size≤y) h' s' ((tQ B O T p).map (Hd B O T))→Upd No h h'→K (to,s',8) h')
  (n:(p=0→tQ B O T p= [])→∀h' t' s',TreeIs W h' a x t' (vR B O T p)→OwnS xW 7 dQ (fun y=>h.size≤y) h' s' ((tQ B O T p).map (Hd B O T))→Upd No h h'→K (t',s',0) h'):
  HC PG qW [yY tb,yY to,yY f,.int .i64 p] [.agg [.int .i64,.int .u64,.int .u64,.int .u64,.ptr,.ptr],.c .slice,.c (.int .i64)] K h:=
 G4 m t q o k s g i lo lt c d (adP k g i lt) (fun _ _=>act _ _) b n
end Go.Proofs
namespace Go.Proofs
open Go Go.Lift
theorem py{W:Nat→Prop}{x:Hs}{h:ad}{b:Int}{r:Rt}{l:List Pr}(i:RefIs W h b x r l)(n:bM l)(p:Fit l)(q:l.length≤1000000)(k:ByteArray){K:Sd→ad→Prop}(j:∀h',Upd No h h'→K (As (look l k)) h'):HC PG mJ [OX r,.string k] [.agg [.str,.bool]] K h:=by
 refine WQ r k ?_;unfold Nb bV df BQ av DQ cU DK xN;refine aP fun w b1 k1=>aP fun h2 b2 o=>?_
 have a:=k1.tr o;obtain⟨s,rfl,u,_⟩:=i;refine⟨s,vc (o.get0 b1) 4,?_⟩;refine Uz (u.upd a fun _ h=>h.elim) n p q k fun v g f=>?_
 have e:As (look l k)=(v,cG l k):=UP n g f;rw[e]at j;refine cF (c:= [.string (⟨#[]⟩:ByteArray),.bool false]) (vs:=abt (v,cG l k)) b2 rfl fun t m d=>?_
 exact⟨_,vc m 0,_,vc m 1,j t (a.own d k1.size)⟩
def HG(a l:List Pr):List Pr:=l.foldl (fun a p=>iq p a) a
theorem Bz{a l:List Pr}{i:Nat}(hi:i<l.length):HG a (l.take (i+1))=iq l[i] (HG a (l.take i)):=by
 unfold HG;rw[bj hi,List.foldl_append];rfl
theorem y7:∀{l a:List Pr},bM a→bM (HG a l)
 | [],_,h=>h
 |p::l,_,h=>y7 (l:=l) (vM p h)
theorem BB{k:ByteArray}:∀{l a:List Pr},(look (HG a l) k).isSome=((look a k).isSome||(look l k).isSome)
 | [],a=>by rw[P4];simp[HG]
 |p::l,a=>by
  show(look (HG (iq p a) l) k).isSome=_
  rw[BB,Jm,fK];split
  ·simp
  ·rfl
def An(B O T:List Pr):List Pr:=HG (HG (HG [] B) O) T
theorem Ay{B O T:List Pr}:bM (An B O T):=y7 (y7 (y7 eI))
theorem Jl{B O T:List Pr}{k:ByteArray}(h:(look (An B O T) k).isSome=false):look B k=none∧look O k=none∧look T k=none:=by
 unfold An at h;rw[BB,BB,BB,P4]at h;simpa[and_assoc]using h
def JM(B O T:List Pr)(p:Int)(l:List Pr):List ByteArray:=(l.map (·.1)).filter fun k=> !(tk B O T p k).2
def CU(B O T:List Pr)(p:Int)(l:List Pr):List Pr:=l.filterMap fun q=>(tk B O T p q.1).1.map fun v=>(q.1,v)
theorem Ww{B O T:List Pr}{p:Int}{l:List Pr}{i:Nat}(hi:i<l.length):JM B O T p (l.take (i+1))=JM B O T p (l.take i)++if(tk B O T p l[i].1).2 then[]else[l[i].1]:=by
 unfold JM;rw[bj hi,cO,List.filter_append];congr 1
 rw[List.map_singleton,List.filter_cons,List.filter_nil];cases(tk B O T p l[i].1).2<;>rfl
def aaX(k:ByteArray)(o:Option ByteArray):List Pr:=(o.map fun v=>(k,v)).toList
theorem V5{B O T:List Pr}{p:Int}{l:List Pr}{i:Nat}(hi:i<l.length):CU B O T p (l.take (i+1))=CU B O T p (l.take i)++aaX l[i].1 (tk B O T p l[i].1).1:=by
 unfold CU aaX;rw[bj hi,List.filterMap_append];congr 1
theorem YF{B O T:List Pr}{p:Int}{l:List Pr}:(JM B O T p l).length≤l.length:=aX (List.length_filter_le ..) (eY (cC ..))
theorem X5{B O T:List Pr}{p:Int}{l:List Pr}:(CU B O T p l).length≤l.length:=List.length_filterMap_le ..
theorem X4{B O T:List Pr}{p:Int}:∀{l:List Pr} {q:Pr},q∈CU B O T p l→∃r∈l,r.1=q.1:=by
 intro l q h;obtain⟨r,a,e⟩:=List.mem_filterMap.1 h;refine⟨r,a,?_⟩;cases ho:(tk B O T p r.1).1 with
 |none=>rw[ho]at e;cases e
 |some v=>rw[ho]at e;cases e;rfl
theorem IY{B O T:List Pr}{p:Int}:∀{l:List Pr},bM l→bM (CU B O T p l)
 | [],_=>eI
 |q::l,h=>by
  have h:=aF.1 h;have c:=IY (B:=B) (O:=O) (T:=T) (p:=p) h.2;unfold CU at c⊢;rw[mD];split
  ·exact c
  ·rename_i b e
   cases ho:(tk B O T p q.1).1 with
   |none=>rw[ho]at e;cases e
   |some v=>
    rw[ho]at e;cases e;refine aF.2 ⟨fun r f=>?_,c⟩
    obtain⟨d,a,g⟩:=X4 f;show kl q.1 r.1
    rw[←g];exact h.1 d a
theorem My{B O T:List Pr}{p:Int}{k:ByteArray}:∀{l:List Pr},bM l→look (CU B O T p l) k=if(look l k).isSome then(tk B O T p k).1 else none
 | [],_=>rfl
 |q::l,h=>by
  have h':=aF.1 h;have a:=My (B:=B) (O:=O) (T:=T) (p:=p) (k:=k) h'.2;rw[fK];by_cases e:q.1=k
  ·subst e
   rw[if_pos rfl];have b:look l q.1=none:=AH h'.1;rw[b]at a;show look (CU B O T p (q::l)) q.1=(tk B O T p q.1).1
   unfold CU at a⊢;rw[mD];cases ho:(tk B O T p q.1).1 with
   |none=>exact a
   |some v=>show look ((q.1,v)::_) q.1=_;rw[fK,if_pos rfl]
  ·rw[if_neg e,←a]
   unfold CU;rw[mD];cases ho:(tk B O T p q.1).1 with
   |none=>rfl
   |some v=>show look ((q.1,v)::_) k=_;rw[fK,if_neg e]
theorem Sp{B O T:List Pr}{p:Int}(f:bM B)(c:bM O)(d:bM T):CU B O T p (An B O T)=vR B O T p:=by
 refine Ye (IY Ay) (D2 c) fun k=>?_
 rw[My Ay,Sy f d];cases hk:(look (An B O T) k).isSome with
 |true=>rfl
 |false=>
  obtain⟨a,e,b⟩:=Jl hk;unfold tk vn;rw[a,e,b];rfl
theorem Tc{B O T:List Pr}{p:Int}(b:bM B)(a:bM T):JM B O T p (An B O T)=tQ B O T p:=by
 have c:=Ay (B:=B) (O:=O) (T:=T);refine P7 ?_ (Zy b a) fun k=>?_
 ·unfold JM
  exact List.Pairwise.sublist List.filter_sublist (j7.2 c)
 ·rw[X9 b a]
  unfold JM;rw[List.mem_filter];refine⟨fun h=>by simpa using h.2,fun h=>⟨?_,by rw[h];rfl⟩⟩
  cases hk:look (An B O T) k with
  |some v=>exact List.mem_map.2 ⟨_,uA hk,rfl⟩
  |none=>
   obtain⟨f,e,d⟩:=Jl (B:=B) (O:=O) (T:=T) (k:=k) (by rw[hk];rfl);unfold tk at h;exact absurd (e.trans d.symm) (Pc.1 h).1
theorem Jo{W W':Nat→Prop}{h h':ad}{a:Int}{x:Hs}{r q:Rt}{l l':List Pr}(j:RefIs W h a x r l)(b:RefIs W' h' a x q l'):Ef r q=true:=by
 obtain⟨s,rfl,_⟩:=j;obtain⟨s',rfl,_⟩:=b;simp[Ef]
end Go.Proofs
