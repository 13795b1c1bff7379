/- A part of the proof that the named laws of this program answer true, whatever the input. -/
import Derived.Test.YtceikogjngfacaaGreatPart14
import Derived.Test.YtceikogjngfacaaGreatPart9
import Derived.Test.YtceikogjngfacaaGreatPart10
import Derived.Test.YtceikogjngfacaaGreatPart13
open BitVec renaming ofInt→az
open Bool renaming and_eq_true→aO
open Go.IntKind renaming wrap→ac,bits→aj
open Int renaming tdiv→pM,tdiv_eq_ediv_of_nonneg→mS
open List renaming pairwise_cons→bF,getElem?_set_self→jg,getElem?_eq_some_iff→bv,map_map→dR,mem_map→bI,mem_of_getElem?→ao,mem_cons_of_mem→aA,length_map→aX,getElem?_eq_getElem→ag,getElem_map→cH,getElem_mem→bR,length_take→aL,take_succ_eq_append_getElem→bd,length→eO,set_cons_succ→fk,length_append→af,length_nil→aQ,nil_append→bZ
open List.Pairwise renaming nil→dh
open List.Perm renaming refl→mR
open Nat renaming le_of_eq→fA,mul_comm→gf,mul_assoc→oe,le_trans→co,le_refl→ai,zero_le→aY,min_eq_left→cr
open Option renaming some→bX
open Prod renaming mk→ou
namespace Go.Proofs
open Go.Lift Go.Sort
variable {s:SliceV} {b:Nat} {rest:List Value} {h:ae} {d:Array Int}
@[simp] theorem Fp(lt:Int→Int→Bool):∀(j:Nat) (d:Array Int),(shiftDown lt j d).size=d.size
 |0,d=>rfl
 |j+1,d=>by rw[shiftDown];split;rfl;rw[Fp lt j];simp
@[simp] theorem V4(lt:Int→Int→Bool)(e j:Nat)(d:Array Int):(shiftUp lt e j d).size=d.size:=by
 fun_induction shiftUp lt e j d<;>simp_all
theorem GO{a e:Nat}(hs:SAG s b rest h d)(ha:a<e)(he:e≤d.size){K:Bool→ae→Prop}(Q:∀m,SAG s b rest m (partialInsertionSort ltInt d a e).1→Upd (· =b) h m→K (partialInsertionSort ltInt d a e).2 m):
  f5 210 [.slice s.a s.len s.cap,.int .i64 a,.int .i64 e] K h:=by
 refine eM (gH s a e) l7 Tryz.func210 Tryz.call210 ?_;dsimp only[gH,F7,cg,dy,ic,ji,Iq,Gi];have hsm:=hs.small;refine LoopP.ghost (fun(g:Nat×Nat×Array Int) (t:Int×Int) m=>t.1=(g.2.1:Int)∧t.2=5-(g.1:Int)∧SAG s b rest m g.2.2∧g.2.2.size=d.size∧partialIns ltInt a e g.1 g.2.1 g.2.2=partialInsertionSort ltInt d a e∧Upd (· =b) h m∧g.1≤5∧a<g.2.1∧g.2.1≤e) (fun g=>g.1) (5,a+1,d)
  ⟨by(try simp only);rw[dL (by omega)];rfl,by(try simp only);omega,hs,rfl,rfl,Upd.refl _ _,by simp,by simp,by(try simp only);omega⟩ ?_
 rintro I ⟨st,i0,N⟩ ⟨t1,t2⟩ h1 ⟨Y,ht2,u,hz1,B,x,hst,U,hie⟩ hI;(try simp only at Y ht2 u hz1 B hst U hie)
 subst Y ht2;refine ak (fun hlt=>?_) fun hge=>?_
 ·obtain⟨st,rfl⟩:∃k,st=k+1:=⟨st-1,by have:5-(st:Int)<5:=hlt;omega⟩
  refine Join.intro (fun t m=>∃S V,t=(S:Nat)∧SAG s b rest m V∧V.size=d.size∧partialIns ltInt a e st S V=partialInsertionSort ltInt d a e∧Upd (· =b) h m∧a<S∧S≤e) (fun R hR=>?_) ?_
  ·refine LoopP.ghost (fun(i:Nat) (t:Int) m=>t=(i:Int)∧m=h1∧scanSorted ltInt N e i=scanSorted ltInt N e i0∧a<i∧i≤e) (fun i=>e-i) i0 ⟨rfl,rfl,rfl,U,hie⟩ ?_
   rintro I2 i t m ⟨rfl,rfl,hsc,o,p⟩ hI2;refine Join.intro (fun c W=>W=m∧(c=true↔i<e∧ltInt N[i]! N[i-1]! =false)) (fun R2 hR2=>?_) ?_
   ·refine ak (fun hle=>?_) fun hgt=>hR2 _ _ ⟨rfl,by simp;omega⟩
    refine u.less (i:=i) (j:=i-1) rfl (by rw[dL (by omega)];omega) (by omega) (by omega) (hR2 _ _ ⟨rfl,by simp;omega⟩)
   ·rintro c W ⟨rfl,hc⟩
    refine CondP.intro (fun h2=>?_) fun h2=>?_
    ·have hh:=hc.1 h2
     refine hI2 (i+1) _ _ ⟨by rw[dL (by omega)];rfl,rfl,?_,by omega,by omega⟩ (by omega)
     rw[←hsc];conv=>rhs;rw[scanSorted]
     rw[if_pos (by simp[hh])]
    ·have hsi:scanSorted ltInt N e i=i:=by
      rw[scanSorted,if_neg];intro hh;simp only[aO,decide_eq_true_iff,Bool.not_eq_eq_eq_not,Bool.not_true]at hh;rw[hc.2 hh]at h2;cases h2
     have f:=B;rw[partialIns]at f;simp only[←hsc,hsi]at f;refine CondP.intro (fun J=>?_) fun J=>?_
     ·have J:i=e:=Int.ofNat.inj (by simpa using J)
      rw[if_pos J]at f;rw[←f]at Q;exact Q _ u x
     ·have J:i≠e:=fun e'=>by subst e';simp at J
      rw[if_neg J]at f;have we:ac .i64 ((e:Int)-(a:Int))=((e-a:Nat):Int):=by rw[dL (by omega)];omega
      show CondP (decide (ac .i64 ((e:Int)-(a:Int))<50)) _ _
      rw[we];refine ak (fun h4=>?_) fun h4=>?_
      ·rw[if_pos (by omega)]at f
       rw[←f]at Q;exact Q _ u x
      ·rw[if_neg (by omega)]at f
       have hi1:1≤i:=by omega
       refine u.swap (i:=i) (j:=i-1) rfl (by rw[dL (by omega)];omega) (by omega) (by omega) fun h5 E hu5=>?_
       have C:(swp N i (i-1)).size=d.size:=by simp[hz1]
       generalize swp N i (i-1)=d5 at E C f;refine Join.intro (fun _ m=>SAG s b rest m (if i-a≥2 then shiftDown ltInt (i-1) d5 else d5)∧Upd (· =b) h m) (fun R3 w=>?_) ?_
       ·have wi:ac .i64 ((i:Int)-(a:Int))=((i-a:Nat):Int):=by rw[dL (by omega)];omega
        show CondP (decide (ac .i64 ((i:Int)-(a:Int))≥2)) _ _
        rw[wi];refine ak (fun h6=>?_) fun h6=>?_
        ·rw[if_pos (by omega)]at w
         refine LoopP.ghost (fun(g:Nat×Array Int) (t:Int) m=>t=(g.1:Int)∧SAG s b rest m g.2∧g.2.size=d.size∧shiftDown ltInt g.1 g.2=shiftDown ltInt (i-1) d5∧Upd (· =b) h m∧g.1<e) (fun g=>g.1) (i-1,d5)
          ⟨by rw[dL (by omega)];(try simp only);omega,E,C,rfl,x.tr hu5,by(try simp only);omega⟩ ?_
         rintro I4 ⟨j,d6⟩ t h7 ⟨X,v,hz7,q,L,F⟩ G;(try simp only at X v hz7 q F)
         subst X;refine ak (fun h8=>?_) fun h8=>?_
         ·obtain⟨j,rfl⟩:∃k,j=k+1:=⟨j-1,by omega⟩
          have P:ac .i64 (((j+1:Nat):Int)-1)=(j:Int):=by rw[dL (by omega)];omega
          rw[shiftDown]at q;refine v.less (i:=j+1) (j:=j) rfl P (by omega) (by omega) (CondP.intro (fun T=>?_) fun T=>?_)
          ·rw[if_pos T]at q
           exact w _ _ ⟨by rw[←q];exact v,L⟩
          ·rw[if_neg (by rw[T];simp)]at q
           refine v.swap (i:=j+1) (j:=j) rfl P (by omega) (by omega) fun A hs10 Z=>?_
           exact G (j,swp d6 (j+1) j) _ _ ⟨P,hs10,by simp[hz7],q,L.tr Z,by(try simp only);omega⟩ (by simp)
         ·have:j=0:=by omega
          subst this;exact w _ _ ⟨by rw[←q];exact v,L⟩
        ·rw[if_neg (by omega)]at w
         exact w _ _ ⟨E,x.tr hu5⟩
       ·rintro _ h6 ⟨O,hu6⟩
        have D:(if i-a≥2 then shiftDown ltInt (i-1) d5 else d5).size=d.size:=by split<;>simp[C]
        generalize (if i-a≥2 then shiftDown ltInt (i-1) d5 else d5)=d6 at O D f
        have wi:ac .i64 ((e:Int)-(i:Int))=((e-i:Nat):Int):=by rw[dL (by omega)];omega
        show CondP (decide (ac .i64 ((e:Int)-(i:Int))≥2)) _ _
        rw[wi];refine ak (fun h7=>?_) fun h7=>?_
        ·rw[if_pos (by omega)]at f
         refine LoopP.ghost (fun(g:Nat×Array Int) (t:Int) m=>t=(g.1:Int)∧SAG s b rest m g.2∧g.2.size=d.size∧shiftUp ltInt e g.1 g.2=shiftUp ltInt e (i+1) d6∧Upd (· =b) h m∧1≤g.1∧g.1≤e) (fun g=>e-g.1) (i+1,d6)
          ⟨by rw[dL (by omega)];rfl,O,D,rfl,hu6,by simp,by(try simp only);omega⟩ ?_
         rintro I4 ⟨j,d7⟩ t h8 ⟨X,y,z,n,H,hj1,F⟩ G;(try simp only at X y z n hj1 F)
         subst X;refine ak (fun T=>?_) fun T=>?_
         ·have P:ac .i64 ((j:Int)-1)=((j-1:Nat):Int):=by rw[dL (by omega)];omega
          rw[shiftUp,if_pos (by omega)]at n;refine y.less (i:=j) (j:=j-1) rfl P (by omega) (by omega) (CondP.intro (fun A=>?_) fun A=>?_)
          ·rw[if_pos A]at n
           exact hR _ _ ⟨i,d7,rfl,y,z,by rw[n];exact f,H,o,p⟩
          ·rw[if_neg (by rw[A];simp)]at n
           refine y.swap (i:=j) (j:=j-1) rfl P (by omega) (by omega) fun h11 hs11 hu11=>?_
           exact G (j+1,swp d7 j (j-1)) _ _ ⟨by rw[dL (by omega)];rfl,hs11,by simp[z],n,H.tr hu11,by simp,by(try simp only);omega⟩ (by(try simp only);omega)
         ·rw[shiftUp,if_neg (by omega)]at n
          exact hR _ _ ⟨i,d7,rfl,y,z,by rw[n];exact f,H,o,p⟩
        ·rw[if_neg (by omega)]at f
         exact hR _ _ ⟨i,d6,rfl,O,D,f,hu6,o,p⟩
  ·rintro t m ⟨S,V,rfl,hs2,hz2,f,hu2,o,p⟩
   exact hI (st,S,V) _ _ ⟨rfl,by(try simp only);rw[dL (by omega)];omega,hs2,hz2,f,hu2,by(try simp only);omega,o,p⟩ (by simp)
 ·have:st=0:=by have:¬5-(st:Int)<5:=hge;omega
  subst this;rw[partialIns]at B;rw[←B]at Q;exact Q _ u x
theorem Be{x y:Nat}(g:SAG s b rest h d)(hx:x<d.size)(v:y<d.size){c:Nat}{n:Int}(hc:h[c]? =some (.cells #[.int .i64 n] 3 (0,0))) (f:c≠b) {K:Int×Int→ae→Prop}
  (o:∀h' (p q:Nat) m,(p=x∧q=y∨p=y∧q=x)→SAG s b rest h' d→h'[c]? =some (.cells #[.int .i64 m] 3 (0,0))→Upd (· =c) h h'→K ((p:Int),(q:Int)) h'):
  SO 272 [.slice s.a s.len s.cap,.int .i64 x,.int .i64 y,gF c] K h:=by
 refine eM (mJ s x y (some ⟨c,0,none⟩)) .nil Tryz.func272 Tryz.call272 ?_;dsimp only[mJ,dq,Iq,cg,Gi,ic,ji,xx];refine g.less (i:=y) (j:=x) rfl rfl v hx (CondP.intro (fun u=>?_) fun u=>?_)
 ·refine⟨_,rfl,n,by rw[bO hc];rfl,_,rfl,fz hc (by simp),?_⟩
  have k:Upd (· =c) h (hset h ⟨c,0,none⟩ (.int .i64 (ac .i64 (n+1)))):=Upd.hset _ _ rfl
  refine o _ y x (ac .i64 (n+1)) (.inr ⟨rfl,rfl⟩) (g.upd k fun e=>f e.symm) ?_ k
  rw[ju hc,dU hc];rfl
 ·exact o _ x y _ (.inl ⟨rfl,rfl⟩) g hc (Upd.refl _ _)
theorem GU{x y z:Nat}(J:SAG s b rest h d)(hx:x<d.size)(L:y<d.size)(G:z<d.size){c:Nat}{n:Int}(hc:h[c]? =some (.cells #[.int .i64 n] 3 (0,0))) (e:c≠b) {K:Int→ae→Prop}
  (D:∀h' (p:Nat) m,(p=x∨p=y∨p=z)→SAG s b rest h' d→h'[c]? =some (.cells #[.int .i64 m] 3 (0,0))→Upd (· =c) h h'→K (p:Int) h'):
  iI 248 [.slice s.a s.len s.cap,.int .i64 x,.int .i64 y,.int .i64 z,gF c] K h:=by
 refine eM (mK s x y z (some ⟨c,0,none⟩)) .nil Tryz.func248 Tryz.call248 ?_;unfold mK Wf;refine Be J hx L hc e fun W E N P O q A u=>?_
 have w:N<d.size:=by omega
 have i:E<d.size:=by omega
 refine Be q w G A e fun h2 F R V U g C j=>?_
 have B:F<d.size:=by omega
 refine Be g i B C e fun T S H I Q f o v=>?_
 exact D _ H I (by omega) f o ((u.tr j).tr v)
theorem vE{x:Nat}(o:SAG s b rest h d)(y:1≤x)(hx:x+1<d.size){c:Nat}{n:Int}(hc:h[c]? =some (.cells #[.int .i64 n] 3 (0,0))) (j:c≠b) {K:Int→ae→Prop}
  (u:∀e (p:Nat) m,(x-1≤p∧p≤x+1)→SAG s b rest e d→e[c]? =some (.cells #[.int .i64 m] 3 (0,0))→Upd (· =c) h e→K (p:Int) e):
  iI 247 [.slice s.a s.len s.cap,.int .i64 x,gF c] K h:=by
 refine eM (jy s x (some ⟨c,0,none⟩)) .nil Tryz.func247 Tryz.call247 ?_;unfold jy Wh;have v:=o.small;have w:ac .i64 ((x:Int)-1)=((x-1:Nat):Int):=by rw[dL (by omega)];omega
 have q:ac .i64 ((x:Int)+1)=((x+1:Nat):Int):=by rw[dL (by omega)];omega
 rw[w,q];exact GU o (by omega) (by omega) hx hc j fun e p m z g f i=>u e p m (by omega) g f i
theorem Fz{a e:Nat}(J:SAG s b rest h d)(ha:a<e)(he:e≤d.size){K:Int×Int→ae→Prop}
  (y:∀g (p:Nat) (n:Int),a≤p→p<e→SAG s b rest g d→Upd No h g→K ((p:Int),n) g):
  SO 208 [.slice s.a s.len s.cap,.int .i64 a,.int .i64 e] K h:=by
 refine eM (kr s a e) pX Tryz.func208 Tryz.call208 ?_;dsimp only[kr,Wh,Wg,xx,VO];have X:=J.small;have k0:=Upd.hnew No h [.int .i64 0] 3;have j:=cO h [.int .i64 0] 3;have o:=J.upd k0 id;have hbl:=bc J.blk;have u:h.size≠b:=by omega
 simp only[Go.Lift.At];generalize hnew h [.int .i64 0] 3=h0 at k0 j o;have wl:ac .i64 ((e:Int)-(a:Int))=((e-a:Nat):Int):=by rw[dL (by omega)];omega
 have W:ac .i64 (pM ((e-a:Nat):Int) 4)=(((e-a)/4:Nat):Int):=by
  rw[mS (by omega),dL (by omega)];omega
 have wm:∀k:Nat,k≤3→ac .i64 (((((e-a)/4:Nat):Int))*(k:Int))=(((e-a)/4*k:Nat):Int):=fun k y=>by
  rw[Int.natCast_mul,dL];have:(e-a)/4*k≤1000000000*3:=Nat.mul_le_mul (by omega) y;have:(((e-a)/4*k:Nat):Int)=(((e-a)/4:Nat):Int)*(k:Int):=Int.natCast_mul ..;omega
 have U:=wm 1 (by omega);have S:=wm 2 (by omega);have T:=wm 3 (by omega);simp only[Int.cast_ofNat_Int]at U S T;simp only[Bd,wl,W];have I:ac .i64 ((((e-a)/4:Nat):Int)*1)=(((e-a)/4*1:Nat):Int):=U;have L:ac .i64 ((((e-a)/4:Nat):Int)*2)=(((e-a)/4*2:Nat):Int):=S;have F:ac .i64 ((((e-a)/4:Nat):Int)*3)=(((e-a)/4*3:Nat):Int):=T;rw[I,L,F];have E:∀k:Nat,k≤3→ac .i64 ((a:Int)+(((e-a)/4*k:Nat):Int))=((a+(e-a)/4*k:Nat):Int):=fun k y=>by
  have:(e-a)/4*k≤(e-a)/4*3:=Nat.mul_le_mul_left _ y;rw[dL (by omega)];omega
 refine⟨by decide,by decide,by decide,?_⟩
 refine Join.intro (fun t g=>∃p:Nat,t=(p:Int)∧a≤p∧p<e∧SAG s b rest g d∧Upd No h g∧∃m,g[h.size]? =some (.cells #[.int .i64 m] 3 (0,0))) (fun R P=>?_) ?_
 ·rw[E 1 (by omega),E 2 (by omega),E 3 (by omega)]
  refine ak (fun Q=>?_) fun Q=>?_
  ·have Q:8≤e-a:=by omega
   refine Join.intro (fun t g=>∃p q r:Nat,t=((p:Int),(q:Int),(r:Int))∧(a≤p∧p<e)∧(a≤q∧q<e)∧(a≤r∧r<e)∧SAG s b rest g d∧Upd No h g∧∃m,g[h.size]? =some (.cells #[.int .i64 m] 3 (0,0))) (fun R2 B=>?_) ?_
   ·refine ak (fun C=>?_) fun C=>?_
    ·have C:50≤e-a:=by omega
     refine vE o (by omega) (by omega) j u fun V Y m1 e1 c i f=>?_
     refine vE c (by omega) (by omega) i u fun h2 H m2 e2 v A x=>?_
     refine vE v (by omega) (by omega) A u fun h3 Z m3 e3 D G N=>?_
     exact B _ _ ⟨Y,H,Z,rfl,by omega,by omega,by omega,D,k0.trans ((f.tr x).tr N) fun b O=>.inr (fA O.symm),_,G⟩
    ·exact B _ _ ⟨_,_,_,rfl,by omega,by omega,by omega,o,k0,_,j⟩
   ·rintro t V ⟨p,q,r,rfl,hp,hq,hr,c,f,m,i⟩
    refine GU c (by omega) (by omega) (by omega) i u fun h2 H m2 e2 v A x=>?_
    exact P _ _ ⟨H,rfl,by omega,by omega,v,f.trans x fun b O=>.inr (fA O.symm),_,A⟩
  ·exact P _ _ ⟨_,rfl,by omega,by omega,o,k0,_,j⟩
 ·rintro t V ⟨p,rfl,w,z,c,f,m,i⟩
  refine⟨m,by rw[dA,bO i];rfl,CondP.intro (fun _=>y _ p _ w z c f) fun _=>CondP.intro (fun _=>y _ p _ w z c f) fun _=>y _ p _ w z c f⟩
end Go.Proofs
namespace Go.Proofs
open Go.Lift Go.Sort
variable {s:SliceV} {b:Nat} {rest:List Value} {h:ae} {d:Array Int}
theorem MM(x:Int):ac .u64 x=x%18446744073709551616:=by
 simp[ac,aj,IntKind.signed]
theorem IT(x:Int){m:Int}(b:0≤m)(hm:m<18446744073709551616):0≤ac .u64 ((az (aj .u64) x&&&az (aj .u64) m).toNat:Int)∧ac .u64 ((az (aj .u64) x&&&az (aj .u64) m).toNat:Int)≤m:=by
 have c:(az (aj .u64) x&&&az (aj .u64) m).toNat≤(az (aj .u64) m).toNat:=by
  rw[BitVec.toNat_and];exact Nat.and_le_right
 have h2:((az (aj .u64) m).toNat:Int)=m:=by
  show((az 64 m).toNat:Int)=m
  rw[BitVec.toNat_ofInt];have:m%((2^64:Nat):Int)=m:=Int.emod_eq_of_lt b (by omega);rw[this];omega
 rw[MM];omega
abbrev QV:ByteArray:=⟨#[0,1,2,2,3,3,3,3,4,4,4,4,4,4,4,4,5,5,5,5,5,5,5,5,5,5,5,5,5,5,5,5,6,6,6,6,6,6,6,6,6,6,6,6,6,6,6,6,6,6,6,6,6,6,6,6,6,6,6,6,6,6,6,6,7,7,7,7,7,7,7,7,7,7,7,7,7,7,7,7,7,7,7,7,7,7,7,7,7,7,7,7,7,7,7,7,7,7,7,7,7,7,7,7,7,7,7,7,7,7,7,7,7,7,7,7,7,7,7,7,7,7,7,7,7,7,7,7,8,8,8,8,8,8,8,8,8,8,8,8,8,8,8,8,8,8,8,8,8,8,8,8,8,8,8,8,8,8,8,8,8,8,8,8,8,8,8,8,8,8,8,8,8,8,8,8,8,8,8,8,8,8,8,8,8,8,8,8,8,8,8,8,8,8,8,8,8,8,8,8,8,8,8,8,8,8,8,8,8,8,8,8,8,8,8,8,8,8,8,8,8,8,8,8,8,8,8,8,8,8,8,8,8,8,8,8,8,8,8,8,8,8,8,8,8,8,8,8,8,8,8,8,8,8,8,8]⟩
theorem UI:∀x:Nat,x<256→∃c:UInt8,QV[x]? =some c∧c.toNat≤8∧(1≤x→2^c.toNat≤2*x)∧(x=0→c.toNat=0):=by
 have key:∀x:Fin 256,∃c:UInt8,QV[x.val]? =some c∧c.toNat≤8∧(1≤x.val→2^c.toNat≤2*x.val)∧(x.val=0→c.toNat=0):=by
  intro x;have:∀x:Fin 256,(match QV[x.val]? with|some c=>decide (c.toNat≤8∧(1≤x.val→2^c.toNat≤2*x.val)∧(x.val=0→c.toNat=0))|none=>false)=true:=by decide+kernel
  have hx:=this x;split at hx
  ·rename_i c hc
   exact⟨c,hc,of_decide_eq_true hx⟩
  ·cases hx
 exact fun x hx=>key ⟨x,hx⟩
theorem SF{n:Nat}(w:n<4294967296){K:Int→ae→Prop}(u:∀L:Nat,L≤64→(1≤n→2^L≤2*n)→K (L:Int) h):iI 182 [.int .u64 n] K h:=by
 refine eM (vh n) Dl Tryz.func182 Tryz.call182 ?_;unfold vh;have fd:∀(x k:Nat),Int.fdiv (x:Int) (2^k)=((x/2^k:Nat):Int):=fun x k=>by
  rw[Int.fdiv_eq_ediv_of_nonneg _ (Int.pow_nonneg (by omega))];rw[Int.natCast_ediv,Int.natCast_pow];rfl
 refine Join.intro (fun t g=>g=h∧t=((n:Int),(0:Int))) (fun R e=>?_) ?_
 ·exact ak (fun b=>by omega) fun b=>e _ _ ⟨rfl,rfl⟩
 ·rintro t g ⟨rfl,rfl⟩
  refine Join.intro (fun t h2=>h2=g∧∃x s:Nat,t=((x:Int),(s:Int))∧x*2^s≤n∧(1≤n→1≤x)∧x<65536∧s≤16) (fun R e=>?_) ?_
  ·refine ak (fun b=>?_) fun b=>e _ _ ⟨rfl,n,0,rfl,by simp,fun h=>h,by have b:¬(n:Int)≥65536:=b;omega,by omega⟩
   have b:65536≤n:=by have b:(n:Int)≥65536:=b;omega
   refine⟨by omega,e _ _ ⟨rfl,n/2^16,16,?_,Nat.div_mul_le_self ..,fun _=>by omega,by omega,by omega⟩⟩
   simp only[ou.injEq];exact⟨fd n 16,by decide⟩
  ·rintro t h2 ⟨rfl,x,s,rfl,hx,d,f,j⟩
   refine Join.intro (fun t i=>i=h2∧∃x s:Nat,t=((x:Int),(s:Int))∧x*2^s≤n∧(1≤n→1≤x)∧x<256∧s≤24) (fun R e=>?_) ?_
   ·refine ak (fun b=>?_) fun b=>e _ _ ⟨rfl,x,s,rfl,hx,d,by have b:¬(x:Int)≥256:=b;omega,by omega⟩
    have b:256≤x:=by have b:(x:Int)≥256:=b;omega
    refine⟨by omega,e _ _ ⟨rfl,x/2^8,s+8,?_,?_,fun _=>by omega,by omega,by omega⟩⟩
    ·simp only[ou.injEq]
     exact⟨fd x 8,by rw[dL (by omega)];omega⟩
    ·rw[Nat.pow_add,gf (2^s),←oe]
     exact co (Nat.mul_le_mul_right _ (Nat.div_mul_le_self ..)) hx
   ·rintro t i ⟨rfl,x,s,rfl,hx,d,f,j⟩
    obtain⟨c,hc,p,m,o⟩:=UI x f;have wx:ac .u8 (x:Int)=(x:Int):=by
     simp[ac,aj,IntKind.signed];omega
    show∃b10:UInt8,(0:Int)≤ac .u8 (x:Int)∧QV[(ac .u8 (x:Int)).toNat]? =some b10∧_
    rw[wx];refine⟨c,by omega,by simpa using hc,?_⟩
    have v:ac .i64 (c.toNat:Int)=(c.toNat:Int):=dL (by omega);have q:ac .i64 ((s:Int)+ac .i64 (c.toNat:Int))=((s+c.toNat:Nat):Int):=by rw[v,dL (by omega)];omega
    show K (ac .i64 ((s:Int)+ac .i64 (c.toNat:Int))) i
    rw[q];refine u _ (by omega) fun b=>?_
    have:=m (d b);rw[Nat.pow_add];calc 2^s*2^c.toNat≤2^s*(2*x):=Nat.mul_le_mul_left _ this
     _=2*(x*2^s):=by rw[gf (2^s),oe]
     _≤2*n:=Nat.mul_le_mul_left _ hx
theorem QU{n:Nat}(c:n<4294967296){K:Int→ae→Prop}(b:∀L:Nat,L≤64→(1≤n→2^L≤2*n)→K (L:Int) h):iI 143 [.int .u64 n] K h:=by
 refine eM (ya n) .nil Tryz.func143 Tryz.call143 ?_;unfold ya;exact SF c b
theorem Nq{n:Nat}(c:1≤n)(f:n≤1000000000){K:Int→ae→Prop}(b:∀m:Nat,1≤m→m≤2*n→K (m:Int) h):qu 215 [.int .i64 n] K h:=by
 refine eM (oU n) .nil Tryz.func215 Tryz.call215 ?_;unfold oU;rw[show ac .u64 (n:Int)=(n:Int) by rw[MM];omega]
 refine QU (by omega) fun L g d=>⟨by omega,?_⟩
 have:=d c;have e:ac .u64 (1*2^(min ((L:Int)).toNat (aj .u64)))=((2^L:Nat):Int):=by
  rw[MM,show min ((L:Int)).toNat (aj .u64)=L by simp[aj];omega,Int.one_mul]
  have h2:(2:Int)^L=((2^L:Nat):Int):=by simp
  rw[h2];generalize 2^L=P at this⊢;omega
 rw[e];exact b _ (Nat.one_le_two_pow) this
theorem KS{c:Nat}{n:Int}{t:TypeId}(hc:h[c]? =some (.cells #[.int .u64 n] t (0,0))) {K:Int→ae→Prop}
  (j:∀h' m,h'[c]? =some (.cells #[.int .u64 m] t (0,0))→Upd (· =c) h h'→K m h'):qu 216 [gF c] K h:=by
 refine eM (py (some ⟨c,0,none⟩)) .nil Tryz.func216 Tryz.call216 ?_;dsimp only[py,dq,Bw,Oh];have set:∀{h:ae} {n:Int} (m:Int),h[c]? =some (.cells #[.int .u64 n] t (0,0))→(hset h ⟨c,0,none⟩ (.int .u64 m))[c]? =some (.cells #[.int .u64 m] t (0,0))∧Upd (· =c) h (hset h ⟨c,0,none⟩ (.int .u64 m))∧Wr h ⟨c,0,none⟩:=fun m hc=>by
  refine⟨?_,Upd.hset _ _ rfl,fz hc (by simp)⟩;rw[ju hc,dU hc];rfl
 have b:∀{h:ae} {n:Int},h[c]? =some (.cells #[.int .u64 n] t (0,0))→bh h ⟨c,0,none⟩=some (.int .u64 n):=fun hc=>by rw[bO hc];rfl
 refine⟨_,rfl,_,b hc,_,rfl,_,b hc,by omega,_,rfl,?_⟩
 obtain⟨e,k1,q⟩:=set _ hc;refine⟨q,_,rfl,_,b e,_,rfl,_,b e,by omega,_,rfl,?_⟩
 obtain⟨d,p,o⟩:=set _ e;refine⟨o,_,rfl,_,b d,_,rfl,_,b d,by omega,_,rfl,?_⟩
 obtain⟨f,i,g⟩:=set _ d;exact⟨g,_,rfl,_,b f,j _ _ f ((k1.tr p).tr i)⟩
theorem CJ{a e:Nat}(E:SAG s b rest h d)(ha:a≤e)(he:e≤d.size){K:Unit→ae→Prop}(S:∀c d',SAG s b rest c d'→PermIn a e d d'→Upd (· =b) h c→K () c):
  eJ 207 [.slice s.a s.len s.cap,.int .i64 a,.int .i64 e] K h:=by
 refine eM (jL s a e) o8 Tryz.func207 Tryz.call207 ?_;dsimp only[jL,F7,cg,dy,ic,ji,VO];have hsm:=E.small;have wl:ac .i64 ((e:Int)-(a:Int))=((e-a:Nat):Int):=by rw[dL (by omega)];omega
 rw[wl];refine ak (fun Q=>?_) fun Q=>S h d E (permIn_refl ..) (Upd.refl _ _)
 have Q:8≤e-a:=by omega
 have k0:=Upd.hnew No h [.int .u64 0] 327;have f:=cO h [.int .u64 0] 327;have z:=E.upd k0 id;have hbl:=bc E.blk;have v:h.size≠b:=by omega
 simp only[Go.Lift.At,dA];generalize hnew h [.int .u64 0] 327=h0 at k0 f z;refine⟨fz f (by simp),?_⟩;have k1:Upd (· =h.size) h0 (hset h0 ⟨h.size,0,none⟩ (.int .u64 (ac .u64 ((e-a:Nat):Int)))):=Upd.hset _ _ rfl
 have C:(hset h0 ⟨h.size,0,none⟩ (.int .u64 (ac .u64 ((e-a:Nat):Int))))[h.size]? =some (.cells #[.int .u64 (ac .u64 ((e-a:Nat):Int))] 327 (0,0)):=by
  rw[ju f,dU f];rfl
 have A:=z.upd k1 fun e=>v e.symm
 generalize hset h0 ⟨h.size,0,none⟩ (.int .u64 (ac .u64 ((e-a:Nat):Int)))=h1 at k1 C A;refine Nq (by omega) (by omega) fun m hm1 hm2=>⟨by decide,?_⟩
 have V:ac .i64 (ac .i64 (pM ((e-a:Nat):Int) 4)*2)=(((e-a)/4*2:Nat):Int):=by
  rw[mS (by omega),dL (x:=((e-a:Nat):Int)/4) (by omega),dL (by omega)];omega
 simp only[Bd];rw[V];have w0:ac .i64 (ac .i64 ((a:Int)+(((e-a)/4*2:Nat):Int))-1)=((a+(e-a)/4*2-1:Nat):Int):=by
  rw[dL (x:=(a:Int)+_) (by omega),dL (by omega)];omega
 have Z:ac .i64 (ac .i64 ((a:Int)+(((e-a)/4*2:Nat):Int))+1)=((a+(e-a)/4*2+1:Nat):Int):=by
  rw[dL (x:=(a:Int)+_) (by omega),dL (by omega)];omega
 rw[w0];refine LoopP.ghost (fun(g:Nat×Array Int) (t:Int) c=>t=(g.1:Int)∧SAG s b rest c g.2∧PermIn a e d g.2∧Upd (· =b) h c∧(∃n,c[h.size]? =some (.cells #[.int .u64 n] 327 (0,0)))∧a+(e-a)/4*2-1≤g.1∧g.1≤a+(e-a)/4*2+2) (fun g=>a+(e-a)/4*2+2-g.1) (a+(e-a)/4*2-1,d)
  ⟨rfl,A,permIn_refl ..,k0.wide.trans k1 fun x hx=>.inr (by omega),⟨_,C⟩,ai _,by(try simp only);omega⟩ ?_
 rintro I ⟨i,D⟩ t h2 ⟨T,u,p,w,⟨n2,O⟩,H,N⟩ hI;(try simp only at T u p H N)
 subst T;have hz:D.size=d.size:=p.1;refine⟨by decide,?_⟩;rw[Z];refine ak (fun L=>?_) fun W=>S h2 D u p w
 have L:i≤a+(e-a)/4*2+1:=by omega
 refine KS O fun h3 r J B=>?_
 have F:=u.upd B fun e=>v e.symm
 have wm:ac .u64 ((m:Int)-1)=((m-1:Nat):Int):=by rw[MM];omega
 rw[wm];obtain⟨Y,a1⟩:=IT r (m:=((m-1:Nat):Int)) (by omega) (by omega);generalize ac .u64 ((az (aj .u64) r&&&az (aj .u64) ((m-1:Nat):Int)).toNat:Int)=o at Y a1;have X:ac .i64 o=o:=dL (by omega);refine Join.intro (fun t c=>c=h3∧∃q:Nat,t=(q:Int)∧q<e-a) (fun R P=>?_) ?_
 ·show CondP (decide (ac .i64 o≥((e-a:Nat):Int))) _ _
  rw[X];refine ak (fun U=>P _ _ ⟨rfl,(o-((e-a:Nat):Int)).toNat,?_,by omega⟩) fun U=>P _ _ ⟨rfl,o.toNat,by omega,by omega⟩
  show ac .i64 (o-((e-a:Nat):Int))=_
  rw[dL (by omega)];omega
 ·rintro t c ⟨rfl,q,rfl,hq⟩
  have wj:ac .i64 ((a:Int)+(q:Int))=((a+q:Nat):Int):=by rw[dL (by omega)];omega
  refine F.swap (i:=i) (j:=a+q) rfl wj (by omega) (by omega) fun h5 G y=>?_
  refine hI (i+1,swp D i (a+q)) _ _ ⟨by rw[dL (by omega)];rfl,G,permIn_trans _ _ _ _ _ p (swp_permIn D a e i (a+q) (by omega) (by omega) (by omega) (by omega) (by omega)),?_,⟨r,y.get J v⟩,by(try simp only);omega,by(try simp only);omega⟩ (by(try simp only);omega)
  exact(w.trans B fun x hx=>.inr (by omega)).tr y
end Go.Proofs
namespace Go.Proofs
open Go.Lift Go.Sort
variable {s:SliceV} {b:Nat} {rest:List Value} {h:ae} {d:Array Int}
theorem MO:SWO ltInt:=⟨fun x=>by simp[ltInt],fun x y z b h2=>by simp only[ltInt,decide_eq_true_iff]at*;omega,fun x y z b h2=>by simp only[ltInt,decide_eq_false_iff_not]at*;omega⟩
theorem WU:∀(n:Nat) {a e:Nat} {lim:Int} {h:ae} {d:Array Int} {K:Unit→ae→Prop},e-a=n→SAG s b rest h d→a≤e→e≤d.size→Go.Sort.Below ltInt a e d→
  (∀o d',SAG s b rest o d'→PermIn a e d d'→SortedIn ltInt a e d'→Upd (· =b) h o→K () o)→eJ 171 [.slice s.a s.len s.cap,.int .i64 a,.int .i64 e,.int .i64 lim] K h:=by
 intro n;induction n using Nat.strongRecOn with
 |_ n ih=>
 intro a e lim h d K hn hs ha he hB hk;refine mh s a e lim ?_;dsimp only[jf,Qy,Fi,Iq,cg,Gi,ic,ji];have hsm:=hs.small;refine LoopP.ghost (fun(g:Nat×Nat×Array Int) (t:Int×Int×Int×Bool×Bool) o=>t.1=(g.1:Int)∧t.2.1=(g.2.1:Int)∧SAG s b rest o g.2.2∧g.2.2.size=d.size∧(a≤g.1∧g.1≤g.2.1∧g.2.1≤e)∧Go.Sort.Below ltInt g.1 g.2.1 g.2.2∧
   (∀R,PermIn g.1 g.2.1 g.2.2 R→SortedIn ltInt g.1 g.2.1 R→PermIn a e d R∧SortedIn ltInt a e R)∧Upd (· =b) h o) (fun g=>g.2.1-g.1) (a,e,d)
  ⟨rfl,rfl,hs,rfl,⟨ai _,ha,ai _⟩,hB,fun R h1 h2=>⟨h1,h2⟩,Upd.refl _ _⟩ ?_
 rintro I ⟨c,f,d1⟩ ⟨t1,t2,l1,wb,wp⟩ h1 ⟨S,ht2,B,T,⟨haa,A,hee⟩,hB1,m,V⟩ hI;(try simp only at S ht2 B T haa A hee hB1 m)
 subst S ht2;have z:f≤d1.size:=by omega
 have wl:ac .i64 ((f:Int)-(c:Int))=((f-c:Nat):Int):=by rw[dL (by omega)];omega
 (try simp only)
 rw[wl];refine ak (fun hle=>?_) fun hgt=>?_
 ·refine NL B A z fun h2 w v=>?_
  obtain⟨p1,p2⟩:=insertionSort_holds MO d1 c f A z;obtain⟨q1,q2⟩:=m _ p1 p2;exact hk _ _ w q1 q2 (V.tr v)
 have hgt:12<f-c:=by omega
 refine CondP.intro (fun _=>?_) fun _=>?_
 ·refine LJ B A z fun h2 w v=>?_
  obtain⟨p1,p2⟩:=heapSort_holds MO d1 c f A z;obtain⟨q1,q2⟩:=m _ p1 p2;exact hk _ _ w q1 q2 (V.tr v)
 refine Join.intro (fun _ o=>∃W,SAG s b rest o W∧PermIn c f d1 W∧Upd (· =b) h o) (fun R D=>?_) ?_
 ·refine CondP.intro (fun _=>?_) fun _=>D _ _ ⟨d1,B,permIn_refl ..,V⟩
  exact CJ B A z fun h2 W w C v=>D _ _ ⟨W,w,C,V.tr v⟩
 rintro lim2 h2 ⟨W,w,C,v⟩;have hz2:W.size=d.size:=by rw[C.1,T]
 refine Fz w (by omega) (by omega) fun h3 p hn1 hpa hpe hs3 hu3=>?_
 refine Join.intro (fun t o=>∃(q:Nat) (X:Array Int),t.1=(q:Int)∧c≤q∧q<f∧SAG s b rest o X∧PermIn c f d1 X∧Upd (· =b) h o) (fun R D=>?_) ?_
 ·refine CondP.intro (fun _=>?_) fun _=>D _ _ ⟨p,W,rfl,hpa,hpe,hs3,C,v.tr hu3.wide⟩
  refine MW hs3 (by omega) (by omega) fun h4 N F=>D _ _ ⟨f-1-(p-c),_,?_,by omega,by omega,N,permIn_trans _ _ _ _ _ C (reverseRange_holds W c f A (by omega)),(v.tr hu3.wide).tr F⟩
  show ac .i64 (ac .i64 ((f:Int)-1)-ac .i64 ((p:Int)-(c:Int)))=_
  rw[dL (x:=(f:Int)-1) (by omega),dL (x:=(p:Int)-(c:Int)) (by omega),dL (by omega)];omega
 rintro⟨q1,hint⟩ h4 ⟨q,X,hq,O,U,N,H,F⟩;(try simp only at hq)
 subst hq;have hz3:X.size=d.size:=by rw[H.1,T]
 have hB3:Go.Sort.Below ltInt c f X:=hB1.perm z H;refine Join.intro (fun _ o=>∃Q,SAG s b rest o Q∧PermIn c f d1 Q∧Upd (· =b) h o) (fun R D=>?_) ?_
 ·refine Join.intro (fun _ o=>o=h4) (fun R2 hR2=>CondP.intro (fun _=>CondP.intro (fun _=>hR2 _ _ rfl) fun _=>hR2 _ _ rfl) fun _=>hR2 _ _ rfl) ?_
  rintro _ h5 rfl;refine CondP.intro (fun _=>?_) fun _=>D _ _ ⟨X,N,H,F⟩
  refine GO N (by omega) (by omega) fun h6 hs6 hu6=>?_
  obtain⟨p1,p2⟩:=partialInsertionSort_holds MO X c f (by omega) (by omega) hB3;refine CondP.intro (fun hb=>?_) fun _=>D _ _ ⟨_,hs6,permIn_trans _ _ _ _ _ H p1,F.tr hu6⟩
  obtain⟨r1,Z⟩:=m _ (permIn_trans _ _ _ _ _ H p1) (p2 hb);exact hk _ _ hs6 r1 Z (F.tr hu6)
 rintro _ h5 ⟨Q,Y,G,hu5⟩;have hz4:Q.size=d.size:=by rw[G.1,T]
 have hB4:Go.Sort.Below ltInt c f Q:=hB1.perm z G;refine Join.intro (fun t o=>o=h5∧(t=true→0<c∧ltInt Q[c-1]! Q[q]! =false)) (fun R D=>?_) ?_
 ·refine ak (fun h6=>?_) fun _=>D _ _ ⟨rfl,fun e=>by cases e⟩
  refine Y.less (i:=c-1) (j:=q) (by rw[dL (by omega)];omega) rfl (by omega) (by omega) (D _ _ ⟨rfl,fun e=>⟨by omega,by simpa using e⟩⟩)
 rintro t h6 ⟨rfl,ht⟩;refine CondP.intro (fun S=>?_) fun _=>?_
 ·obtain⟨h7,h8⟩:=ht S
  refine PB Y O U (by omega) fun h9 y P=>?_
  cases hx:partitionEqual ltInt Q c f q with
  |mk mid d5=>
   rw[hx]at y;obtain⟨m1,m2,m3,m4,m5⟩:=round_eq MO (partitionEqual_holds _) h7 O U (by omega) hB4 h8 hx;refine hI (mid,f,d5) _ _ ⟨rfl,rfl,y,by(try simp only);omega,⟨by(try simp only);omega,m2,hee⟩,m4,fun R r1 Z=>?_,hu5.tr P⟩ (by(try simp only);omega)
   obtain⟨x1,x2⟩:=m5 R r1 Z;exact m R (permIn_trans _ _ _ _ _ G x1) x2
 ·refine Ur Y O U (by omega) fun h9 y P=>?_
  cases hx:partition ltInt Q c f q with
  |mk mid r=>
   obtain⟨ap,d5⟩:=r;rw[hx]at y;obtain⟨m1,m2,m3,m4,m5,m6,m7⟩:=round_part MO (partition_holds _) O U (by omega) hB4 hx;(try simp only at y⊢)
   refine⟨by decide,?_⟩;have w1:ac .i64 ((mid:Int)-(c:Int))=((mid-c:Nat):Int):=by rw[dL (by omega)];omega
   have w2:ac .i64 ((f:Int)-(mid:Int))=((f-mid:Nat):Int):=by rw[dL (by omega)];omega
   have w3:ac .i64 ((mid:Int)+1)=((mid+1:Nat):Int):=by rw[dL (by omega)];omega
   rw[w1,w2,w3];refine ak (fun _=>?_) fun _=>?_
   ·refine ih (mid-c) (by omega) rfl y m1 (by omega) m4 fun h10 d6 J u L E=>?_
    obtain⟨y1,y2⟩:=m6 d6 u L;have hz6:=u.1;refine hI (mid+1,f,d6) _ _ ⟨rfl,rfl,J,by(try simp only);omega,⟨by(try simp only);omega,by(try simp only);omega,hee⟩,y1,fun R r1 Z=>?_,(hu5.tr P).tr E⟩ (by(try simp only);omega)
    obtain⟨x1,x2⟩:=y2 R r1 Z;exact m R (permIn_trans _ _ _ _ _ G x1) x2
   ·refine ih (f-(mid+1)) (by omega) rfl y (by omega) (by omega) m5 fun h10 d6 J u L E=>?_
    obtain⟨y1,y2⟩:=m7 d6 u L;have hz6:=u.1;refine hI (c,mid,d6) _ _ ⟨rfl,rfl,J,by(try simp only);omega,⟨haa,m1,by(try simp only);omega⟩,y1,fun R r1 Z=>?_,(hu5.tr P).tr E⟩ (by(try simp only);omega)
    obtain⟨x1,x2⟩:=y2 R r1 Z;exact m R (permIn_trans _ _ _ _ _ G x1) x2
theorem Fs{d b:Array Int}(c:PermIn 0 d.size d b):b.toList.Perm d.toList:=by
 have:=c.2.2;have e:b.extract 0 d.size=b:=by rw[←c.1];simp
 rw[e]at this;simpa using this
theorem WC{M:Nat→Prop}{h:ae}{s:SliceV}{xs:List Int}(d:OwnS u32 1 31 M h s xs)(G:xs.length≤1000000000){K:Unit→ae→Prop}
  (z:∀c ys,OwnS u32 1 31 M c s ys→ys.Perm xs→ys.Pairwise (·≤·)→Upd M h c→K () c):eJ 139 [.slice s.a s.len s.cap] K h:=by
 refine eM (oV s) .nil Tryz.func139 Tryz.call139 ?_;unfold oV Fi;have m:s.len=xs.length:=d.len;rw[show ac .u64 (s.len:Int)=(s.len:Int) by rw[MM];omega]
 refine QU (by omega) fun L _ _=>?_
 rcases d.blk with R|⟨b,rest,A,g,J,E⟩
 ·have hx:xs= []:=by
   have:=d.cap;exact List.length_eq_zero_iff.1 (by omega)
  subst hx;obtain⟨w,l0,c0⟩:=s;have u:l0=0:=m;subst u;refine mh ⟨w,0,c0⟩ 0 ((0:Nat):Int) L ?_;dsimp only[jf,Qy,Fi,Iq,cg,Gi,ic,ji];refine LoopP.ghost (fun(_:Unit) (t:Int×Int×Int×Bool×Bool) c=>t.1=0∧t.2.1=0∧c=h) (fun _=>0) () ⟨rfl,rfl,rfl⟩ ?_
  rintro I _ ⟨P,O,N⟩ c ⟨rfl,rfl,rfl⟩ _;refine ak (fun _=>?_) fun n=>absurd (show ac .i64 ((0:Int)-0)≤12 by decide) n
  refine jK ⟨w,0,c0⟩ 0 0 ?_;dsimp only[fY,F7,cg,dy,ic,ji,Iq,Gi];refine LoopP.ghost (fun(_:Unit) (t:Int) h2=>t=1∧h2=c) (fun _=>0) () ⟨by decide,rfl⟩ ?_
  rintro Q _ t h2 ⟨rfl,rfl⟩ _;exact ak (fun n=>absurd n (by decide)) fun _=>z _ [] d (mR _) dh (Upd.refl _ _)
 ·have H:SAG s b rest h xs.toArray:=⟨A,by simp[m],by simpa using J,by simpa using G⟩
  have F:((s.len:Nat):Int)=((xs.toArray.size:Nat):Int):=by simp[m]
  rw[F];refine WU (a:=0) (e:=xs.toArray.size) _ rfl H (aY _) (ai _) (.inl rfl) fun c o p B D C=>?_
  have f:=Fs B;refine z c o.toList ⟨by rw[m,f.length_eq],d.ne,d.cap,.inr ⟨b,rest,A,g,p.blk,E⟩⟩ (by simpa using f) ?_ (C.mono fun x hx=>.inl (hx▸g))
  rw[List.pairwise_iff_getElem];intro i j hi y q;have v:=B.1;have:=D i j (aY _) q (by rw[←v];simpa using y);simp only[ltInt,decide_eq_false_iff_not]at this;rw[getElem!_pos o j (by simpa using y),getElem!_pos o i (by simpa using hi)]at this;simp only[Array.getElem_toList];omega
theorem OX{h:ae}{e:Value}{N:Nat}{S:List Int→Prop}{Q:Nat→Prop}(g:Gives PG e u32 N S Q h)(q:N≤1000000000)(s:∀xs,S xs→xs.length≤1000000000){K:SliceV→ae→Prop}
  (m:∀s' h' xs ys,S xs→OwnS u32 1 31 (fun b=>h.size≤b) h' s' ys→ys.Perm xs→ys.Pairwise (·≤·)→Upd No h h'→K s' h'):fU 108 [e] K h:=by
 refine eM (se e) .nil Tryz.func108 Tryz.call108 ?_;unfold se;refine P5 g q fun n u xs hx f j=>?_
 exact WC f (s xs hx) fun h2 ys d o i c=>m n h2 xs ys hx d o i (j.trans c fun b p=>.inr p)
end Go.Proofs
namespace Go.Proofs
open Go.Lift
theorem vD:∀{ys:List Int},ys.Pairwise (·≤·)→ys.Nodup→ys.Pairwise (· < ·)
 | [],_,_=>dh
 |y::ys,h,n=>by
  rw[bF]at h;rw[List.nodup_cons]at n;exact bF.2 ⟨fun z b=>by have:=h.1 z b;have:y≠z:=fun e=>n.1 (e▸b);omega,vD h.2 n.2⟩
theorem Rep.keys{W:Nat→Prop}{h:ae}{m:List (Int×SliceV)}{L:dI}(r:Rep W h m L)(id:Int):id∈m.map (·.1)↔id∈ids L:=by
 have:=r.some id;have b:id∈m.map (·.1)↔(dT m id).isSome=true:=by
  cases hl:dT m id with
  |none=>simp[mF.1 hl]
  |some v=>
   simp only[Option.isSome_some,iff_true];by_cases hm:id∈m.map (·.1)
   ·exact hm
   ·rw[mF.2 hm]at hl;cases hl
 rw[b,this,decide_eq_true_iff]
theorem Xj{W:Nat→Prop}{h:ae}{gp gm:Nat}{L:dI}{nx:Int}(g:GraphAt W h gp gm L nx)(i:(ids L).Pairwise (· < ·))(x:L.length≤100000)
  {K:SliceV→ae→Prop}(s:∀s' h',OwnS u32 1 31 (fun b=>h.size≤b) h' s' (ids L)→Upd No h h'→K s' h'):fU 67 [gF gp] K h:=by
 refine eM (vm (some ⟨gp,0,none⟩)) .nil Tryz.func67 Tryz.call67 ?_;dsimp only[vm,cg,dq];obtain⟨m,hm,j⟩:=g.map;have n:=j.len hm.nodup g.nd;refine CondP.intro (fun e=>by cases e) fun _=>⟨_,rfl,_,g.c0,?_⟩
 refine UK hm fun z w p d=>?_
 refine OX p (by omega) (fun xs hx=>by have:=hx.length_eq;simp at this;omega) fun s' h2 xs ys hx o v q f=>?_
 have c:=v.trans hx;have e:ys=ids L:=A6 (vD q (c.nodup_iff.2 hm.nodup)) i fun y=>by rw[c.mem_iff,j.keys]
 subst e;exact s s' h2 (o.more fun b u=>co d.size u) (d.tr f)
end Go.Proofs
namespace Go.Proofs
open Go Go.Lift
theorem TW{α:Type}{l:List α}{j:Nat}{a:α}(h:l[j]? =some a):l.set j a=l:=by
 apply List.ext_getElem?;intro i;by_cases e:i=j
 ·subst e;rw[jg (bv.1 h).1,h]
 ·rw[List.getElem?_set_ne (Ne.symm e)]
theorem StoQ.look{h:ae}{sp vp sm pb cb:Nat}{last:Int}{ids:List Int}{es:List Sg}(q:StoQ sp vp sm pb cb last ids es h){e:Sg}(b:e∈es):dT (es.map Sg.a) e.n=some (some ⟨e.eb,0,none⟩):=
 (sZ (by rw[dR];exact q.ndk)).2 (bI.2 ⟨e,b,rfl⟩)
theorem Fm.freeze{α:Type}{f:α→List Value}{sz:Nat}{ty:TypeId}{sl:SliceV}{xs:List α}{Ss:List Sp}{z h:ae}{vp:Nat}{s:VS}{X:(Nat→Prop)→ae→Prop}(g:Fm (bV f sz ty sl xs::Ss) (Fv z vp s X) h):Fm Ss (Fv z vp s fun W h=>X W h∧Sl f sz W h sl xs) h:=by
 have o:OwnS f sz ty (sb sl) h sl xs:=g.o.get (i:=0) rfl;exact g.tail.addX Stab.sl (o.sl fun y b _ c=>c.elim (fun e=>g.f.ap y ⟨_,List.mem_cons_self,b⟩ e) fun e=>(g.o.hd y b).2 e)
section
variable {Ss:List Sp} {z h:ae} {sp vp sm pb cb j:Nat} {last:Int} {ids:List Int} {es:List Sg} {s:VS} {X:(Nat→Prop)→ae→Prop} {p:RParts}
set_option maxHeartbeats 4000000 in
theorem SB(g:Fm Ss (Fv z vp s X) h)(hj:Ss[j]? =some (nR sp vp sm pb cb last ids es)) (st:StPt s last es p) (pi:PtsI p) (Z:kX p=true) (ts:∀{W h},X W h→TsOk s (es.map (·.d)) W h) (hl:p.vs.length≤100000∧p.bs.length≤100000∧p.ts.length≤100000∧p.ss.length≤100000) {K:Pt→ae→Prop}
  (hk:∀Q u ids' es',es'.map Sg.k=es.map Sg.k→Fm (Ss.set j (nR sp vp sm pb cb last ids' es')) (Fv z vp s fun W h=>X W h∧PtIs W h u p) Q→K u Q):
  aaY 27 [gF sp] K h:=by
 have hm:nR sp vp sm pb cb last ids es∈Ss:=ao hj;obtain⟨L,vl⟩:∃L,nz p=some L:=⟨_,st.v.l⟩;have eL:s.L=L:=by have:=st.v.l;rw[vl]at this;exact(bX.inj this).symm
 have nB:iU L false p.bs=true∧iU L true p.ts=true:=by
  unfold kX at Z;rw[vl]at Z;simp only[aO]at Z;exact Z.1
 have aB:qS Tw (p.bs.map (·.1))=true:=by have:=nB.1;unfold iU at this;simp only[aO]at this;exact this.1.2
 have aT:qS Tw (p.ts.map (·.1))=true:=by have:=nB.2;unfold iU at this;simp only[aO]at this;exact this.1.2
 have L2:s.L=p.vs.map fun v=>(v.1,v.2.1):=by
  rw[eL];unfold nz at vl;split at vl
  ·rename_i ha
   cases hp:nA p.vs ([],1)with
   |none=>rw[hp]at vl;cases vl
   |some q=>
    rw[hp]at vl;simp only[Option.bind_some]at vl;split at vl
    ·cases vl
     have pw:=xu (r:=GX) (fun a b c h k=>by unfold GX at*;simp only[decide_eq_true_iff]at*;omega) ha
     have:=JT hp (by simpa using pw.imp fun h=>by unfold GX at h;simpa using h)
     simpa using this
    ·cases vl
  ·cases vl
 have idsL:Proofs.ids s.L=p.vs.map (·.1):=by rw[L2];show(p.vs.map fun v=>(v.1,v.2.1)).map (·.1)=_;rw[dR];rfl
 obtain⟨k1,k2,k3,k4⟩:=Wx g.f.v.em (fun e=>by
  rcases pi.k with⟨e2,_⟩|⟨_,e2⟩
  ·rw[st.kd.1,e2]at e;cases e
  ·rw[st.kd.2,e2])
 refine Ak _ ?_;dsimp only[sd,cg,eP,nv,F9,dg,ce,cf,uk,F8,MI,yj,Ir,MH,js,jP,uN,aR,au,aG,MC,du,cq,dq,FG,ic,ji,iv,dy,mH,IY,Eb,XE,XD,Zy,eS,MB,db,Y7,yn];refine g.var fun h1 g1=>ay.2 ?_
 obtain⟨r,er⟩:∃r,r=h.size:=⟨_,rfl⟩;rw[show aJ h=⟨r,0,none⟩ by rw[er];rfl]
 rw[←er]at g1;have q1:=g1.sto (sp:=sp) (vp:=vp) (sm:=sm) (pb:=pb) (cb:=cb) (last:=last) (ids:=ids) (es:=es) (by repeat first|exact hm|apply aA)
 refine Join.intro (fun t Q=>∃p b,t=(some ⟨p+1,0,none⟩,⟨b,0,none⟩)∧Fm (bU b (kA s.e) 101::bU r WR 53::Ss) (Fv z vp s fun W h=>X W h∧GrX p s.L s.nx W h) Q) (fun R hR=>⟨_,rfl,_,vc q1.b 0,_,rfl,_,vc q1.b 0,⟨?_,?_⟩⟩) ?_
 ·refine g1.graph fun h2 p2 J=>⟨vc (J.sto (by repeat first|exact hm|apply aA)).b 0,⟨J.empty fun h3 H=>H.var fun h4 g4=>g4.fill (vs:=kA s.e) 0 rfl rfl fun h5 B=>hR _ _ ⟨_,_,rfl,B⟩,J.var fun h3 H=>⟨vc (H.sto (by repeat first|exact hm|apply aA)).b 0,H.empty fun h4 g4=>g4.fill (vs:=kA s.e) 0 rfl rfl fun h5 B=>hR _ _ ⟨_,_,rfl,B⟩⟩⟩⟩
 ·refine g1.var fun h2 J=>⟨vc (J.sto (by repeat first|exact hm|apply aA)).b 0,vc (J.sto (by repeat first|exact hm|apply aA)).b 0,J.graph fun h3 p3 H=>⟨vc (H.sto (by repeat first|exact hm|apply aA)).b 0,H.empty fun h4 g4=>g4.fill (vs:=kA s.e) 0 rfl rfl fun h5 B=>hR _ _ ⟨_,_,rfl,B⟩⟩⟩
 rintro _ h2 ⟨gp,eb,rfl,J⟩;have b2:=J.blk 0 rfl;have q2:=J.sto (sp:=sp) (vp:=vp) (sm:=sm) (pb:=pb) (cb:=cb) (last:=last) (ids:=ids) (es:=es) (by repeat first|exact hm|apply aA)
 refine Join.intro (fun t Q=>∃b br tg,t=⟨b,0,none⟩∧Fm (bU b (zR (Uk s fL br tg last fL)) 53::bU eb (kA s.e) 101::bU r WR 53::Ss) (Fv z vp s fun W h=>((X W h∧GrX gp s.L s.nx W h)∧Sl fJ 2 W h br p.bs)∧Sl fJ 2 W h tg p.ts) Q)
  (fun R hR=>⟨_,vc b2 0,_,vc b2 1,_,vc b2 2,_,vc b2 3,_,vc b2 4,_,vc b2 5,_,vc b2 0,_,vc b2 1,_,vc b2 2,_,vc b2 3,_,vc b2 4,_,vc b2 5,_,rfl,_,vc q2.b 0,_,rfl,_,vc q2.b 0,_,rfl,_,vc q2.b 2,?_⟩) ?_
 ·have n:=J
  clear hk g1 J b2 q1 q2 g ts;repeat' first
   |refine n.kind fun _ n=>?_
   |refine n.hash fun _ n=>?_
   |refine n.next ?_
   |refine n.br st.b hl.2.1 aB fun _ _ n=>?_
   |refine n.tg st.g hl.2.2.1 aT fun _ _ n=>?_
   |refine n.var fun _ n=>?_
   |exact n.fill (vs:=zR (Uk s fL _ _ last fL)) 0 rfl rfl fun _ n=>hR _ _ ⟨_,_,_,rfl,n⟩
   |exact vc (n.sto (by repeat first|exact hm|apply aA)).b 0
   |exact vc (n.sto (by repeat first|exact hm|apply aA)).b 2
   |exact n.cl 0 rfl _
   |exact n.cl 1 rfl _
   |refine And.intro ?_ ?_
 rintro _ h3 ⟨xb,br,tg,rfl,H⟩;refine Xj H.f.x.1.1.2.1 H.f.v.inv.good.up (by have:=H.f.v.inv.few;omega) fun si h4 o4 k4=>?_
 have o4:=o4.sl (W:=fun y=>s.M y∨AL (bU xb (zR (Uk s fL br tg last fL)) 53::bU eb (kA s.e) 101::bU r WR 53::Ss) y) fun y hy _ E=>absurd (H.f.v.g.lt y E) (by omega)
 rw[idsL]at o4;have st1:∀{VS:List RV} {rv:List tL},Stab fun W h=>LOk (VerOk W h p.kind p.x) VS rv:=fun _ _ _ _ _ o u hm E=>o.imp fun v r o=>o.re u hm fun b hb=>(E b hb).1
 have g4:=((H.up0 k4).addX (Y:=fun W h=>Sl u32 1 W h si (p.vs.map (·.1))) Stab.sl o4).addX (Y:=fun W h=>LOk (VerOk W h p.kind p.x) [] []) st1 LOk.nil
 have B:=g4.new (a:=bV sr 8 103 fL []) (Upd.refl _ _) (OwnS.nil Qz) fun y hy=>absurd hy (ie y)
 refine LoopP.ghost (fun(w:Nat×SliceV×List RV) (t:Int) Q=>t=(w.1:Int)∧w.1≤p.vs.length∧Fm (bV sr 8 103 w.2.1 w.2.2::bU xb (zR (Uk s w.2.1 br tg last fL)) 53::bU eb (kA s.e) 101::bU r WR 53::Ss) (Fv z vp s fun W h=>((((X W h∧GrX gp s.L s.nx W h)∧Sl fJ 2 W h br p.bs)∧Sl fJ 2 W h tg p.ts)∧Sl u32 1 W h si (p.vs.map (·.1)))∧LOk (VerOk W h p.kind p.x) w.2.2 (p.vs.take w.1)) Q) (fun w=>p.vs.length-w.1) (0,fL,[]) ⟨rfl,aY _,B⟩ ?_
 have sA:Stab fun W h=>((((X W h∧GrX gp s.L s.nx W h)∧Sl fJ 2 W h br p.bs)∧Sl fJ 2 W h tg p.ts)∧Sl u32 1 W h si (p.vs.map (·.1))):=(((g.f.sx.and GrX.stab).and Stab.sl).and Stab.sl).and Stab.sl
 clear B g4 o4 k4 H q2 b2 J q1 g1;rintro I ⟨i,sl,VS⟩ t h5 ⟨rfl,hi,B⟩ hI;(try simp only at hi B)
 have li:=B.f.x.1.2.len;rw[aX]at li;refine ak (fun c=>?_) fun c=>?_
 ·have A:i<p.vs.length:=by omega
  obtain⟨a,ha,_,hv⟩:=B.f.x.1.2.at0 (ag (show i<(p.vs.map (·.1)).length by rw[aX];exact A))
  rw[cH]at hv;have q5:=B.sto (sp:=sp) (vp:=vp) (sm:=sm) (pb:=pb) (cb:=cb) (last:=last) (ids:=ids) (es:=es) (by repeat first|exact hm|apply aA)
  have S:=bR A;have hid:p.vs[i].1∈Proofs.ids s.L:=by rw[idsL];exact bI.2 ⟨_,S,rfl⟩
  have h1:=(B.f.v.inv.pos _ hid).1;obtain⟨v1,v2,v3⟩:=pi.v _ S;have hd:=st.v.d _ S;refine Join.plain ⟨⟨by omega,by omega⟩,a,ha,_,hv,_,rfl,_,vc q5.b 0,TL B.f.v p.vs[i].1 (fun e=>absurd e (by omega)) (fun d hD _ h6 k6=>?_) fun e=>by rw[e]at hd;cases hd⟩
  have ed:d.2=p.vs[i].2.2:=by rw[hD]at hd;exact bX.inj hd
  refine(B.up0 k6).var fun h7 g7=>g7.fill (vs:=kA d.1) 0 rfl rfl fun h8 F=>⟨sl,F.cl 2 rfl 5,_,F.cl 0 rfl 0,_,F.cl 0 rfl 1,_,F.cl 0 rfl 2,_,F.cl 0 rfl 3,_,F.cl 0 rfl 4,_,F.cl 0 rfl 5,?_⟩
  refine NT F.f.x.1.1.1.1.2.1 p.vs[i].1 (fun v hv=>by
   rw[L2]at hv
   obtain⟨w,E,rfl⟩:=bI.1 hv
   have:=(pi.v w E).2.1.1
   (try simp only)
   omega) fun T h9 o9 k9=>?_
  have ep:(dT s.L p.vs[i].1).getD []=p.vs[i].2.1:=by
   have:=(sZ (l:=s.L) (k:=p.vs[i].1) (v:=p.vs[i].2.1) F.f.v.inv.good.nd).2 (by rw[L2];exact bI.2 ⟨_,S,rfl⟩);rw[this];rfl
  rw[ep]at o9;have m:=F.up0 k9;have n9:=o9.sl (W:=fun y=>s.M y∨AL (bU h6.size (kA d.1) 101::bV sr 8 103 sl VS::bU xb (zR (Uk s sl br tg last fL)) 53::bU eb (kA s.e) 101::bU r WR 53::Ss) y) fun y hy _ E=>absurd (F.f.v.g.lt y E) (by omega)
  have t9:=m.f.v.ts _ (Oa hD);refine⟨⟨m.cl 0 rfl 0,m.cl 0 rfl 1,m.cl 0 rfl 2,m.cl 0 rfl 3,m.cl 0 rfl 4,m.cl 0 rfl 5⟩,m.cl 2 rfl 5,?_⟩;have ok9:VerOk (fun y=>s.M y∨AL (bU h6.size (kA d.1) 101::bV sr 8 103 sl VS::bU xb (zR (Uk s sl br tg last fL)) 53::bU eb (kA s.e) 101::bU r WR 53::Ss) y) h9 p.kind p.x (p.vs[i].1,T,d.1) p.vs[i]:=by
   refine⟨rfl,n9,?_⟩;rw[vX v3.1,←ed,←st.kd.1,←st.kd.2];exact t9.1
  have C:=m.addX (Y:=fun W h=>VerOk W h p.kind p.x (p.vs[i].1,T,d.1) p.vs[i]) (fun _ _ _ _ _ o u hm E=>o.re u hm fun b hb=>(E b hb).1) ok9
  refine C.var fun hB N=>⟨⟨N.cl 1 rfl 0,N.cl 1 rfl 1,N.cl 1 rfl 2,N.cl 1 rfl 3,N.cl 1 rfl 4,N.cl 1 rfl 5⟩,N.cl 3 rfl 5,?_⟩
  have lo:=N.f.x.1.2.1;rw[aL,cr hi]at lo;refine N.push (f:=sr) (y:=(p.vs[i].1,T,d.1)) 2 rfl (N.blk 0 rfl) rfl rfl ⟨by decide,by decide⟩ (by omega) fun s' hC O=>⟨⟨O.cl 1 rfl 0,O.cl 1 rfl 1,O.cl 1 rfl 2,O.cl 1 rfl 3,O.cl 1 rfl 4,O.cl 1 rfl 5⟩,O.wr (i:=5) 3 rfl (by simp) fun hD gD=>?_⟩
  rw[cX A (by omega)];refine hI (i+1,s',VS++ [(p.vs[i].1,T,d.1)]) _ _ ⟨rfl,A,?_⟩ (by(try simp only);omega);have gE:=gD.tail.tail;refine gE.lessX (sA.and st1) fun f=>⟨f.1.1,?_⟩
  rw[bd A];exact f.1.2.push f.2
 have:i=p.vs.length:=by omega
 subst this;rw[List.take_length]at B;clear hI I;have q5:=B.sto (sp:=sp) (vp:=vp) (sm:=sm) (pb:=pb) (cb:=cb) (last:=last) (ids:=ids) (es:=es) (by repeat first|exact hm|apply aA)
 have few:=q5.few;have sB:tf p.last p.ss=true:=by
  unfold kX at Z;rw[vl]at Z;simp only[aO]at Z;exact Z.2
 have en:es.map (·.n)=p.ss.map (·.1):=by rw[←st.t,dR];rfl
 have pw:(es.map (·.n)).Pairwise (· < ·):=by
  rw[en];unfold tf at sB;simp only[aO]at sB;exact(xu (r:=GX) (fun a b c h k=>by unfold GX at*;simp only[decide_eq_true_iff]at*;omega) sB.1.2).imp fun h=>by unfold GX at h;simpa using h
 have el:es.length=p.ss.length:=by have:=congrArg eO st.t;simpa using this
 refine⟨_,rfl,_,vc q5.b 1,UL q5.m fun fv h6 hg k6=>?_⟩
 refine OY hg (by rw[aX];omega) (fun xs hx=>by rw[hx.length_eq,aX,aX];omega) fun sy h7 xs ys hx ho hp E k7=>?_
 have hpm:ys.Perm (es.map (·.n)):=by have:=hp.trans hx;rw[dR]at this;exact this
 have eys:ys=es.map (·.n):=A6 (vD E (hpm.nodup_iff.2 q5.ndk)) pw fun y=>hpm.mem_iff
 subst eys;have g6:=B.up0 k6;have o7:=ho.sl (W:=fun y=>s.M y∨AL (bV sr 8 103 sl VS::bU xb (zR (Uk s sl br tg last fL)) 53::bU eb (kA s.e) 101::bU r WR 53::Ss) y) fun y hy _ E=>absurd (g6.f.v.g.lt y E) (by omega)
 have st2:∀{SS:List SR} {rs:List (Int×Bool×List Pr)},Stab fun W h=>LOk (SesOk W h p.kind p.x) SS rs:=fun _ _ _ _ _ o u hm E=>o.imp fun v r o=>o.re u hm fun b hb=>(E b hb).1
 have g7:=((g6.up0 k7).addX (Y:=fun W h=>Sl LG 1 W h sy (es.map (·.n))) Stab.sl o7).addX (Y:=fun W h=>LOk (SesOk W h p.kind p.x) [] []) st2 LOk.nil
 have F:=g7.new (a:=bV La 8 110 fL []) (Upd.refl _ _) (OwnS.nil TZ) fun y hy=>absurd hy (ie y)
 have sC:=(sA.and (st1 (VS:=VS) (rv:=p.vs))).and (Stab.sl (f:=LG) (c:=1) (s:=sy) (xs:=es.map (·.n)))
 have hjl:j<Ss.length:=(bv.1 hj).1;refine LoopP.ghost (fun(w:Nat×List Int×List Sg×SliceV×List SR) (t:Int) Q=>t=(w.1:Int)∧w.1≤es.length∧w.2.2.1.map Sg.k=es.map Sg.k∧Fm (bV La 8 110 w.2.2.2.1 w.2.2.2.2::bV sr 8 103 sl VS::bU xb (zR (Uk s sl br tg last w.2.2.2.1)) 53::bU eb (kA s.e) 101::bU r WR 53::Ss.set j (nR sp vp sm pb cb last w.2.1 w.2.2.1)) (Fv z vp s fun W h=>((((((X W h∧GrX gp s.L s.nx W h)∧Sl fJ 2 W h br p.bs)∧Sl fJ 2 W h tg p.ts)∧Sl u32 1 W h si (p.vs.map (·.1)))∧LOk (VerOk W h p.kind p.x) VS p.vs)∧Sl LG 1 W h sy (es.map (·.n)))∧LOk (SesOk W h p.kind p.x) w.2.2.2.2 (p.ss.take w.1)) Q) (fun w=>es.length-w.1) (0,ids,es,fL,[]) ⟨rfl,aY _,rfl,by rw[TW hj];exact F⟩ ?_
 clear F g7 g6 B o7 ho q5 hg hx hp hpm;rintro I ⟨i,G,D,ss,P⟩ t h9 ⟨rfl,hi,ek,m⟩ hI;(try simp only at hi ek m)
 have hj9:(Ss.set j (nR sp vp sm pb cb last G D))[j]? =some (nR sp vp sm pb cb last G D):=jg hjl;have hm9:=ao hj9;have l1:D.length=es.length:=by have:=congrArg eO ek;simpa using this
 have lj:=m.f.x.1.2.len;rw[aX]at lj;refine ak (fun c=>?_) fun c=>?_
 ·have A:i<es.length:=by omega
  have U:i<D.length:=by omega
  have hlt2:i<p.ss.length:=by omega
  obtain⟨e,ee⟩:∃e,e=D[i]:=⟨_,rfl⟩;have he:e∈D:=by rw[ee];exact bR U
  have ke:e.k=es[i].k:=by
   rw[ee];have:=congrArg (fun l=>l[i]?) ek
   simpa[A,U]using this
  have te:p.ss[i]=es[i].t:=by
   have:=congrArg (fun l=>l[i]?) st.t
   simp[A,hlt2]at this;exact this.symm
  have e1:e.n=es[i].n:=congrArg (·.1) ke
  have e2:e.lv=es[i].lv:=congrArg (·.2.2.1) ke
  have e3:e.d=es[i].d:=congrArg (·.2.2.2) ke
  obtain⟨a,ha,_,hv⟩:=m.f.x.1.2.at0 (g:=fun x=>.int .i64 x) (ag (show i<(es.map (·.n)).length by rw[aX];exact A))
  rw[cH,←e1]at hv;have q9:=m.sto (sp:=sp) (vp:=vp) (sm:=sm) (pb:=pb) (cb:=cb) (last:=last) (ids:=G) (es:=D) (by repeat first|exact hm9|apply aA)
  have lk:=q9.m.get e.n none;rw[q9.look he]at lk;obtain⟨d1,d2,_,_⟩:=q9.ed e he;refine Join.plain ⟨⟨by omega,by omega⟩,a,ha,_,hv,_,rfl,_,vc q9.b 1,_,_,lk,ss,m.cl 2 rfl 9,yQ d1 d2 ⟨m.cl 2 rfl 9,?_⟩⟩
  refine W3 m (j:=j+5) (by simpa using hj9) he fun hA V es2 ek2 C=>?_
  rw[show j+5=((((j+1)+1)+1)+1)+1 from rfl,fk,fk,fk,fk,fk,List.set_set]at C
  have lr:=C.f.x.2.1;rw[aL,cr (by omega)]at lr;have okA:SesOk (fun y=>s.M y∨AL (bV La 8 110 ss P::bV sr 8 103 sl VS::bU xb (zR (Uk s sl br tg last ss)) 53::bU eb (kA s.e) 101::bU r WR 53::Ss.set j (nR sp vp sm pb cb last V es2)) y) hA p.kind p.x (e.n, !e.lv,e.d.1) p.ss[i]:=by
   have t9:=ts C.f.x.1.1.1.1.1.1.1 es[i].d (bI.2 ⟨_,bR A,rfl⟩);refine⟨by rw[te];exact e1,by rw[te,e2],?_⟩
   rw[te,vX t9.2.1,e3,←st.kd.1,←st.kd.2];exact t9.1
  have N:=C.addX (Y:=fun W h=>SesOk W h p.kind p.x (e.n, !e.lv,e.d.1) p.ss[i]) (fun _ _ _ _ _ o u hm E=>o.re u hm fun b hb=>(E b hb).1) okA
  refine⟨N.cl 2 rfl 9,N.var fun hC O=>⟨O.cl 3 rfl 9,O.push (f:=La) (y:=(e.n, !e.lv,e.d.1)) 1 rfl (O.blk 0 rfl) rfl rfl ⟨by decide,by decide⟩ (by omega) fun s' hD gD=>gD.wr (i:=9) 3 rfl (by simp) fun hE gE=>?_⟩⟩
  rw[cX A (by omega)];refine hI (i+1,V,es2,s',P++ [(e.n, !e.lv,e.d.1)]) _ _ ⟨rfl,A,ek2.trans ek,?_⟩ (by(try simp only);omega);refine gE.tail.lessX (sC.and st2) fun f=>⟨f.1.1,?_⟩
  rw[bd hlt2];exact f.1.2.push f.2
 ·have:i=es.length:=by omega
  subst this;rw[List.take_of_length_le (by omega)]at m;refine⟨_,m.cl 2 rfl 0,_,m.cl 2 rfl 1,_,m.cl 2 rfl 2,_,m.cl 2 rfl 3,_,m.cl 2 rfl 4,sl,m.cl 2 rfl 5,br,m.cl 2 rfl 6,tg,m.cl 2 rfl 7,_,m.cl 2 rfl 8,ss,m.cl 2 rfl 9,?_⟩;refine m.fill (vs:=zR (Uk s sl br tg last ss)) 4 rfl rfl fun hA C=>⟨_,C.cl 4 rfl 0,_,C.cl 4 rfl 1,_,C.cl 4 rfl 2,_,C.cl 4 rfl 3,_,C.cl 4 rfl 4,sl,C.cl 4 rfl 5,br,C.cl 4 rfl 6,tg,C.cl 4 rfl 7,_,C.cl 4 rfl 8,ss,C.cl 4 rfl 9,?_⟩
  refine hk hA (Uk s sl br tg last ss) G D ek (C.freeze.freeze.tail.tail.tail.lessX (g.f.sx.and PtIs.stab) fun f=>⟨f.1.1.1.1.1.1.1.1.1,?_⟩)
  exact⟨k1.trans st.kd.1,⟨by rw[←st.kd.2];exact k2,by rw[←st.kd.2];exact k3,by rw[←st.kd.2];exact k4⟩,st.v.n,⟨VS,f.2,f.1.1.1.1.2⟩,f.1.1.1.1.1.1.1.2,f.1.1.1.1.1.1.2,st.l,⟨P,f.1.2,f.1.1.2⟩⟩
end
end Go.Proofs
namespace Go.Proofs
open Go Go.Lift
set_option maxHeartbeats 400000 in
theorem Uv{W0:Nat→Prop}{h:ae}{sl:SliceV}{l:List UInt8}(hs:Sl tK 1 W0 h sl l)(hn:l.length≤90000){K:Pt×Int→ae→Prop}
  (x:(tA (l,0)).2.2≠0→∀z,Upd No h z→K (aaI,(tA (l,0)).2.2) z)
  (w:(tA (l,0)).2.2=0→∀z v,PtIs (fun y=>y<h.size) z v (tA (l,0)).1→Upd No h z→K (v,0) z):
  HC PG 11 [.slice sl.a sl.len sl.cap] WQ K h:=by
 have hlen:=hs.len;refine eM (Fb sl) Ow Tryz.func11 Tryz.call11 ?_;dsimp only[Fb,aR,au,eP,nv,F9,db,dy,aG,Zo,Zx,oX,MC,du,cq,IU,vJ,XD,dg,Zy,eS,cf,MB];refine bj fun m b1 k1=>ak (fun c=>absurd c (by omega)) fun _=>?_
 have z1:=bc b1;refine Yy (q0:=h.size) z1 (hs.upd k1 fun _ h=>h.elim) hn fun h2 b q i2 k2 J zq hq=>?_
 have lb:=i2.lt;have r2:Rd q b (l,0) [] h2:=⟨i2,Own.nil,fun⟨_,h,_⟩=>(by cases h),fun⟨_,h,_⟩=>(by cases h),hq⟩
 refine r2.var fun h3 r3 k3 z3=>r3.fill 0 rfl (by rfl) fun h4 r4 u4=>?_
 have z2:=k2.size;have w4:Upd No m h4:=(k2.tr k3).trans u4 fun y d=>.inr (by have d:y=h2.size:=d;omega)
 obtain⟨F,es⟩:∃F:dV,F=(l,0):=⟨_,rfl⟩;rw[←es]at x w r4;have ls:F.1.length=l.length:=by rw[es]
 clear es i2 r2 r3;refine PE (yi:=h2.size) r4 fun h5 s u5=>?_
 have w5:Upd No m h5:=w4.trans u5 fun y d=>.inr (by omega)
 have z5:=w5.size;obtain⟨gk,X⟩:=JS F;rw[GF]at x w;simp only[qK,qN,qV,qB,qT,qL,qZ]at x w;generalize jW F=cK at*;obtain⟨n,P⟩:∃c,c=aS 4294967295 cK.2:=⟨_,rfl⟩;have Z:=gk.trans (dW 4294967295 cK.2);have V:(aS 4294967295 cK.2).2.2=0→(cK.1.1:Int)=0∨(cK.1.1:Int)=1:=fun e=>X (wt (dW 4294967295 cK.2) e)
 rw[←P]at x w Z V;obtain⟨D,eV⟩:∃c,c=jd nT n.2:=⟨_,rfl⟩;have T:=Z.trans (m0 ur n.2);have kV:(jd nT n.2).2.2=0→(cK.1.1:Int)=0∨(cK.1.1:Int)=1:=fun e=>V (wt (m0 ur n.2) e)
 rw[←eV]at x w T kV;obtain⟨B,eB⟩:∃c,c=jd f7 D.2:=⟨_,rfl⟩;have gB:=T.trans (m0 lf D.2);have S:(jd f7 D.2).2.2=0→(cK.1.1:Int)=0∨(cK.1.1:Int)=1:=fun e=>kV (wt (m0 lf D.2) e)
 rw[←eB]at x w gB S;obtain⟨A,eT⟩:∃c,c=jd f7 B.2:=⟨_,rfl⟩;have gT:=gB.trans (m0 lf B.2);have kT:(jd f7 B.2).2.2=0→(cK.1.1:Int)=0∨(cK.1.1:Int)=1:=fun e=>S (wt (m0 lf B.2) e)
 rw[←eT]at x w gT kT;obtain⟨C,eL⟩:∃c,c=aS 2147483648 A.2:=⟨_,rfl⟩;have gL:=gT.trans (dW 2147483648 A.2);have kL:(aS 2147483648 A.2).2.2=0→(cK.1.1:Int)=0∨(cK.1.1:Int)=1:=fun e=>kT (wt (dW 2147483648 A.2) e)
 have e0:=fK 2147483648 A.2;rw[←eL]at x w gL kL e0;obtain⟨cZ,eZ⟩:∃c,c=jd oB C.2:=⟨_,rfl⟩;rw[←eZ]at x w;have lN:n.2.1.length≤l.length:=ls▸Z.1;have lV:D.2.1.length≤l.length:=ls▸T.1;have lB:B.2.1.length≤l.length:=ls▸gB.1;have lT:A.2.1.length≤l.length:=ls▸gT.1;have lL:C.2.1.length≤l.length:=ls▸gL.1;refine Join.intro (fun t z=>∃pb,t=⟨pb,0,none⟩∧Rd q b n.2 [bU pb (qf cK.1.1 cK.1.2 n.1 fL fL fL 0 fL) 53,bU h2.size (Q1 b cK.1.1 cK.1.2) 95] z∧Upd No m z∧m.size≤pb)
  (fun R hR=>⟨_,s.cl 0 rfl 1,_,s.cl 0 rfl 2,_,s.cl 0 rfl 3,_,s.cl 0 rfl 4,_,s.cl 0 rfl 0,_,s.cl 0 rfl 1,_,s.cl 0 rfl 2,_,s.cl 0 rfl 3,_,s.cl 0 rfl 4,⟨?_,?_⟩⟩) ?_
 ·refine GP s.i fun H i6 Q=>?_
  rw[←P]at i6⊢;have j:=s.rd i6 Q;have z6:=Q.size;refine⟨⟨j.cl 0 rfl 2,j.cl 0 rfl 3,j.cl 0 rfl 4⟩,j.cl 0 rfl 1,j.var fun h7 u k7 z7=>⟨⟨u.cl 1 rfl 2,u.cl 1 rfl 3,u.cl 1 rfl 4⟩,u.cl 1 rfl 1,u.fill 0 rfl (by rfl) fun h8 Y U=>hR _ _ ⟨_,rfl,Y,?_,by omega⟩⟩⟩
  exact((w5.trans Q fun y d=>.inr (by have d:y=b:=d;omega)).tr k7).trans U fun y d=>.inr (by have d:y=H.size:=d;omega)
 ·refine s.var fun H j k6 z6=>⟨⟨j.cl 1 rfl 0,j.cl 1 rfl 1,j.cl 1 rfl 2,j.cl 1 rfl 3,j.cl 1 rfl 4⟩,⟨j.cl 1 rfl 2,j.cl 1 rfl 3,j.cl 1 rfl 4⟩,j.cl 1 rfl 1,GP j.i fun h7 i7 u7=>?_⟩
  rw[←P]at i7⊢;have u:=j.rd i7 u7;refine⟨⟨u.cl 1 rfl 2,u.cl 1 rfl 3,u.cl 1 rfl 4⟩,u.cl 1 rfl 1,u.fill 0 rfl (by rfl) fun h8 Y U=>hR _ _ ⟨_,rfl,Y,?_,by omega⟩⟩
  exact((w5.tr k6).trans u7 fun y d=>.inr (by have d:y=b:=d;omega)).trans U fun y d=>.inr (by have d:y=h5.size:=d;omega)
 rintro _ H ⟨pb,rfl,j,w6,L⟩;have rs:=(((j.cons (a:=bV La 8 110 fL []) (OwnS.nil TZ) fun y d=>absurd d (ie y)).cons (a:=bV fJ 2 106 fL []) (OwnS.nil Cr) fun y d=>absurd d (ie y)).cons (a:=bV fJ 2 106 fL []) (OwnS.nil Cr) fun y d=>absurd d (ie y)).cons (a:=bV sr 8 103 fL []) (OwnS.nil Qz) fun y d=>absurd d (ie y)
 have R:RdV m.size q b cK.1.1 cK.1.2 n.2 (rX b pb h2.size cK.1.1 cK.1.2 n.1 fL [] fL [] fL [] 0 fL []) [] [] [] [] H:=⟨rs,LOk.nil,LOk.nil,w6.size⟩;refine⟨_,R.r.cl 5 rfl 0,_,R.r.cl 5 rfl 1,_,R.r.cl 5 rfl 2,_,R.r.cl 5 rfl 3,_,R.r.cl 5 rfl 4,RQ R V (by omega) w6 J L fun h7 vs VS R7 w7 o1=>?_⟩
 rw[←eV]at R7;refine⟨_,R7.r.cl 5 rfl 0,_,R7.r.cl 5 rfl 1,_,R7.r.cl 5 rfl 2,_,R7.r.cl 5 rfl 3,_,R7.r.cl 5 rfl 4,RP R7 kV (by omega) w7 J L fun h8 bs R8 w8 o2=>?_⟩
 rw[←eB]at R8;refine⟨_,R8.r.cl 5 rfl 0,_,R8.r.cl 5 rfl 1,_,R8.r.cl 5 rfl 2,_,R8.r.cl 5 rfl 3,_,R8.r.cl 5 rfl 4,RO R8 S (by omega) w8 J L fun h9 ts R9 w9 o3=>?_⟩
 rw[←eT]at R9;refine⟨_,R9.r.cl 5 rfl 0,_,R9.r.cl 5 rfl 1,_,R9.r.cl 5 rfl 2,_,R9.r.cl 5 rfl 3,_,R9.r.cl 5 rfl 4,zS R9.r.i 2147483648 fun hA iA uA=>?_⟩
 rw[←eL]at iA⊢;rw[Go.IntWalk.i64_in _ (by omega)];have RA:=R9.rd iA uA;have wA:Upd No m hA:=w9.trans uA fun y d=>.inr (by have d:y=b:=d;omega)
 refine RA.r.wr (p:=pb) (i:=8) 4 rfl (by simp) fun hB rB uB=>?_
 have RB:RdV m.size q b cK.1.1 cK.1.2 C.2 (rX b pb h2.size cK.1.1 cK.1.2 n.1 vs VS bs B.1 ts A.1 C.1 fL []) VS D.1 [] [] hB:=by
  refine RA.go rB uB (fun y d=>.inl (.inr ⟨_,ao (i:=4) rfl,d⟩)) ?_
  rintro y ⟨a,ha,d⟩;simp only[List.mem_cons,List.not_mem_nil,or_false]at ha;rcases ha with rfl|rfl|rfl|rfl|rfl|rfl
  ·exact .inl ⟨_,ao (i:=0) rfl,d⟩
  ·exact .inl ⟨_,ao (i:=1) rfl,d⟩
  ·exact .inl ⟨_,ao (i:=2) rfl,d⟩
  ·exact .inl ⟨_,ao (i:=3) rfl,d⟩
  ·exact .inl ⟨_,ao (i:=4) rfl,d⟩
  ·exact .inl ⟨_,ao (i:=5) rfl,d⟩
 have wB:Upd No m hB:=wA.trans uB fun y d=>.inr (by have d:y=pb:=d;omega)
 refine⟨_,RB.r.cl 5 rfl 0,_,RB.r.cl 5 rfl 1,_,RB.r.cl 5 rfl 2,_,RB.r.cl 5 rfl 3,_,RB.r.cl 5 rfl 4,RN RB kL (by omega) wB J L fun hC ss SS RC wC o4=>?_⟩
 rw[←eZ]at RC;refine⟨_,RC.r.cl 5 rfl 0,UQ RC.r.i fun I iD uD=>?_⟩
 have RD:=RC.rd iD uD;have N:Upd No m I:=wC.trans uD fun y d=>.inr (by have d:y=b:=d;omega)
 have bD:=N.get0 b1;refine CondP.intro (fun c=>?_) fun c=>?_
 ·have c:(xi cZ.2).2≠0:=by simpa using c
  refine dt bD (by rfl) fun O g E=>⟨_,vc g 0,_,vc g 1,_,vc g 2,_,vc g 3,_,vc g 4,fL,vc g 5,fL,vc g 6,fL,vc g 7,_,vc g 8,fL,vc g 9,x c O ((k1.tr N).trans E fun y d=>.inr (by have d:y=h.size:=d;omega))⟩
 ·have c:(xi cZ.2).2=0:=by simpa using c
  have zD:=N.size;refine⟨_,RD.r.cl 4 rfl 0,_,RD.r.cl 4 rfl 1,_,RD.r.cl 4 rfl 2,_,RD.r.cl 4 rfl 3,_,RD.r.cl 4 rfl 4,vs,RD.r.cl 4 rfl 5,bs,RD.r.cl 4 rfl 6,ts,RD.r.cl 4 rfl 7,_,RD.r.cl 4 rfl 8,ss,RD.r.cl 4 rfl 9,dt bD (by rfl) fun O g E=>⟨_,vc g 0,_,vc g 1,_,vc g 2,_,vc g 3,_,vc g 4,vs,vc g 5,bs,vc g 6,ts,vc g 7,_,vc g 8,ss,vc g 9,w c O ((cK.1.1:Int),cK.1.2.k0,cK.1.2.k1,cK.1.2.mask,(n.1:Int),vs,bs,ts,(C.1:Int),ss) ?_ ((k1.tr N).trans E fun y d=>.inr (by have d:y=h.size:=d;omega))⟩⟩
  have hw:∀y,y=h.size→(y<m.size∨y=b∨AL (rX b pb h2.size cK.1.1 cK.1.2 n.1 vs VS bs B.1 ts A.1 C.1 ss SS) y)∨I.size≤y:=fun y d=>.inl (.inl (by omega))
  have G:∀y,y<h.size→(y<m.size∨y=b∨AL (rX b pb h2.size cK.1.1 cK.1.2 n.1 vs VS bs B.1 ts A.1 C.1 ss SS) y)∨I.size≤y:=fun y d=>.inl (.inl (by omega))
  have sub:∀{α:Type} {f:α→List Value} {sz:Nat} {ty:TypeId} {sx:SliceV} {xs:List α},OwnS f sz ty (sb sx) I sx xs→(∀y,sb sx y→m.size≤y)→Sl f sz (fun y=>y<h.size) O sx xs:=fun o ho=>
   ((o.sl (W:=fun y=>y<m.size) fun y d _ hlt=>by have:=ho y d;omega).upd E fun y d=>.inl (by show y<m.size;have d:y=h.size:=d;omega)).less fun y d=>.inl (by show y<m.size;have d:y<h.size:=d;omega)
  refine⟨rfl,⟨rfl,rfl,rfl⟩,rfl,⟨VS,sub (RD.r.o.get (i:=0) rfl) o1,RD.v.imp fun v r o=>o.re E hw G⟩,sub (RD.r.o.get (i:=1) rfl) o2,sub (RD.r.o.get (i:=2) rfl) o3,rfl,⟨SS,sub (RD.r.o.get (i:=3) rfl) o4,RD.s.imp fun v r o=>o.re E hw G⟩⟩
end Go.Proofs
namespace Go.Proofs
open Go Go.Lift
theorem FV(n:Nat):1≤(lF n).length:=by
 by_cases h:n<128
 ·rw[Cp h];exact ai _
 ·rw[Lv h];exact Nat.succ_pos _
theorem CM{α:Type}{w:α→List UInt8}(b:∀a,1≤(w a).length)(l:List α):l.length≤(pO w l).length:=by
 have key:∀l:List α,l.length≤(l.flatMap w).length:=fun l=>by
  induction l with
  |nil=>exact ai _
  |cons a l ih=>rw[List.flatMap_cons,af,List.length_cons];have:=b a;omega
 unfold pO;rw[af];have:=key l;omega
theorem Bc(p:RParts):p.vs.length≤(lZ p).length∧p.bs.length≤(lZ p).length∧p.ts.length≤(lZ p).length∧p.ss.length≤(lZ p).length:=by
 have a:=CM (w:=Af) (fun v=>by unfold Af;rw[af];have:=FV v.1.toNat;omega) p.vs
 have b:=CM (w:=ul) (fun v=>by unfold ul;rw[af];have:=FV v.2.toNat;omega) p.bs
 have c:=CM (w:=ul) (fun v=>by unfold ul;rw[af];have:=FV v.2.toNat;omega) p.ts
 have d:=CM (w:=yk) (fun v=>by unfold yk;rw[af];have:=FV v.1.toNat;omega) p.ss
 unfold lZ;simp only[af];omega
theorem QO{z h:ae}{sp vp sm pb cb:Nat}{last:Int}{ids:List Int}{es:List Sg}{s:VS}{p:RParts}(g:Fm [nR sp vp sm pb cb last ids es] (Fv z vp s fun W h=>TsOk s (es.map (·.d)) W h) h)(st:StPt s last es p)(d:PtsI p)(w:kX p=true)(v:(lZ p).length≤50000){K:SliceV→ae→Prop}(n:∀h' sl,Upd No z h'→Sl tK 1 No h' sl (lZ p)→K sl h'):
  fU 10 [gF sp] K h:=by
 have y:=Bc p;refine Oo _ ?_;unfold Fc pg0;refine ay.2 (SB g (j:=0) rfl st d w (fun f=>f) (by omega) fun x u c q _ i=>?_)
 exact Rq i (fun f=>PtIs.stab _ _ _ _ _ f.x.2 (Upd.refl No _) (fun _ h=>h.elim) fun b e=>⟨.inl (.inr e),f.v.g.lt b (.inr e)⟩) d v fun h2 sl o m=>n h2 sl o.f.k m
def Gj(q:RParts×dV):Int:=if q.2.2≠0 then q.2.2 else if kX q.1=true then 0 else 9
theorem Rz{h:ae}{sl:SliceV}{l:List UInt8}(G:Sl tK 1 No h sl l)(N:l.length≤50000){q:RParts×dV}(m:q=tA (l,0)){K:Option Addr×Int→ae→Prop}
  (j:Gj q≠0→∀b,Upd No h b→K (none,Gj q) b)
  (x:Gj q=0→kX q.1=true→∀b sp vp sm pb cb s last ids es,StPt s last es q.1→Fm [nR sp vp sm pb cb last ids es] (Fv h vp s fun W h=>TsOk s (es.map (·.d)) W h) b→K (some ⟨sp,0,none⟩,0) b):
  Hd 6 [.slice sl.a sl.len sl.cap] K h:=by
 refine eM (AG sl) .nil Tryz.func6 Tryz.call6 ?_;dsimp only[AG,nv,F9,QN,Yi,MC,aR,au,du,cq];have inv:q.2.2=0→l=lZ q.1∧PtsI q.1:=fun e=>by rw[m]at e⊢;exact JP e
 refine HC.mono (ks:=WQ) (K:=fun(B:Pt×Int) b=>Upd No h b∧B.2=q.2.2∧(q.2.2=0→PtIs (fun y=>y<h.size) b B.1 q.1)) (Uv G (by omega) (fun e b k=>?_) fun e b v i k=>?_) ?_
 ·rw[←m]at e⊢;exact⟨k,rfl,fun H=>absurd H e⟩
 ·rw[←m]at e i;exact⟨k,e.symm,fun _=>i⟩
 clear m;rintro⟨v,e⟩ h2 ⟨w,z,hi⟩;(try simp only at z hi)
 subst z;refine bj fun O b3 C=>dt b3 (by rfl) fun p d E=>?_
 have d:p[h2.size]? =some (.cells (zR v).toArray 53 (0,0)):=d;have n:Upd No h2 p:=C.own E (ai _);refine CondP.intro (fun c=>?_) fun c=>?_
 ·have c:q.2.2≠0:=by simpa using c
  have e:Gj q=q.2.2:=if_pos c;rw[e]at j;exact j c p (w.tr n)
 have c:q.2.2=0:=by simpa using c
 have e:Gj q=if kX q.1=true then 0 else 9:=if_neg (fun h=>h c)
 obtain⟨I,F⟩:=inv c;have D:=Bc q.1;rw[←I]at D;have L:=w.size;have J:=n.size;refine⟨_,vc d 0,_,vc d 1,_,vc d 2,_,vc d 3,_,vc d 4,v.2.2.2.2.2.1,vc d 5,v.2.2.2.2.2.2.1,vc d 6,v.2.2.2.2.2.2.2.1,vc d 7,_,vc d 8,v.2.2.2.2.2.2.2.2.2,vc d 9,?_⟩;refine Pf (u:=v) (W:=fun y=>y<h.size) (fun y A=>by omega) (w.tr n) PtIs.stab (PtIs.stab _ _ _ _ _ (hi c) n (fun _ h=>h.elim) fun y A=>⟨.inl A,by omega⟩) (fun f=>f) F (by omega) (fun o b k=>?_) fun o b sp vp sm pb cb s last ids es st g=>?_
 ·rw[o]at e
  rw[e]at j;exact j (by decide) b k
 ·rw[if_pos o]at e
  exact x e o b sp vp sm pb cb s last ids es st (g.less Fv.stab fun f=>⟨f.k,f.lo,f.v,f.ap,TsOk.stab,f.x.2⟩)
abbrev aaD:RParts:=⟨1,⟨0,0,0⟩,1,[],[],[],0,[]⟩
theorem N7{h:ae}{K:Bool→ae→Prop}(m:∀h',Upd No h h'→K true h'):f5 5 [] K h:=by
 refine eM Fe .nil Tryz.func5 Tryz.call5 ?_;unfold Fe zg2 vl3;have e:lZ aaD= [81,1,1,0,0,0,0,0]:=by
  unfold lZ NC pO;simp only[aQ,List.flatMap_nil,Int.toNat_one,Int.toNat_zero,Cp (show 0<128 by omega),Cp (show 1<128 by omega)]
  rfl
 refine JD (kind:=1) (.inr rfl) (x:=⟨0,0,0⟩) (W:=No) (Upd.refl No h) (X:=fun W h=>True) (fun _ _ _ _ _ _ _ _ _=>trivial) trivial fun q sp vp sm pb cb gp gm tm bm nm t g=>aV.2 (aV.2 ?_)
 have st:StPt ⟨gp,gm,tm,bm,nm,1,⟨0,0,0⟩,t,[],1,[],[],[]⟩ 0 [] aaD:=⟨⟨rfl,rfl,fun _ h=>by cases h⟩,rfl,rfl,⟨rfl,rfl⟩,rfl,rfl⟩
 refine QO (p:=aaD) (g.less Fv.stab fun f=>⟨f.k,f.lo,f.v,f.ap,TsOk.stab,fun d hd=>by cases hd⟩) st ⟨.inr ⟨rfl,rfl⟩,by decide,fun _ h=>(by cases h),fun _ h=>(by cases h),fun _ h=>(by cases h),by decide,fun _ h=>by cases h⟩ rfl (by rw[e];decide) fun h2 sl n b=>?_
 rw[e]at b;refine bj fun c j i=>?_
 have o:OwnS tK 1 5 (fun _=>True) c ⟨some ⟨h2.size,0,none⟩,8,8⟩ [81,1,1,0,0,0,0,0]:=⟨rfl,rx,ai _,.inr ⟨h2.size,[],rfl,trivial,j,rfl⟩⟩
 exact DN (b.upd i fun _ h=>h.elim) (o.sl (W:=No) fun _ _ _ h=>h) (by decide) (m c (n.tr i))
theorem Lp{W:Nat→Prop}{h:ae}{sl:SliceV}{l:List UInt8}(hs:Sl tK 1 W h sl l)(hc:sl.len≤sl.cap)(hn:l.length≤9223372036854775807):f5 3 [.slice sl.a sl.len sl.cap] (fun e b=>e=true∧Upd No h b) h:=by
 have hlen:=hs.len;refine eM (yd sl) FO Tryz.func3 Tryz.call3 ?_;dsimp only[yd,nv,F9,QN,Zd,Yi,MC,aR,au,du,cq];refine N7 fun h1 k1=>ay.2 ?_
 have V:=hs.upd k1 fun _ h=>h.elim
 refine Join.intro (fun t b=>∃bs:List UInt8,bs.length≤6000∧Sl tK 1 No b t bs∧t.len≤t.cap∧Upd No h b) (fun R j=>bj fun h2 b2 z=>?_) ?_
 ·obtain⟨m,em,hm,hm2⟩:∃m:Nat,(if 6000<(sl.len:Int)then(6000:Int)else(sl.len:Int))=(m:Int)∧m≤l.length∧m≤6000:=by
   split
   ·exact⟨6000,rfl,by omega,ai _⟩
   ·exact⟨sl.len,rfl,by omega,by omega⟩
  rw[em];have s1:=(V.upd z fun _ h=>h.elim).sub (l:=0) (hi:=m) (m:=sl.cap) (c:=sl.cap-0) (aY _) hm (by omega)
  rw[List.drop_zero,Nat.sub_zero]at s1;have z1:=bc b2;refine⟨⟨by omega,by omega⟩,Ky (Ky (Ky ⟨_,s1.srow,?_⟩))⟩
  have O:OwnS tK 1 5 (fun y=>h1.size≤y) h2 ⟨some (aJ h1),0,0⟩ []:=OwnS.nil rx
  refine AppP.own (ys:=l.take m) O (by show m-0=_;rw[aL];omega) rfl (Ck _) rfl (by omega) (by rw[aL,aQ];omega) (by show h1.size≤h2.size;omega) fun s' h3 S u3=>j _ _ ⟨l.take m,by rw[aL];omega,?_,S.cap,(k1.tr z).trans u3 fun y I=>.inr (by have:=k1.size;omega)⟩
  rw[bZ]at S;exact S.sl fun _ _ _ h=>h
 rintro G h2 ⟨bs,hb,o,Q,z⟩;have la:=o.len;refine Join.intro (fun t b=>Sl tK 1 No b t bs∧Upd No h2 b) (fun R j=>bj fun h3 b3 k3=>?_) ?_
 ·have z3:=bc b3
  have O:OwnS tK 1 5 (fun y=>h2.size≤y) h3 ⟨some (aJ h2),0,0⟩ []:=OwnS.nil rx
  refine⟨_,(o.upd k3 fun _ h=>h.elim).srow,AppP.own (ys:=bs) O la rfl (Ck _) rfl (by omega) (by rw[aQ];omega) (by show h2.size≤h3.size;omega) fun s' p o4 u4=>j _ _ ⟨?_,k3.trans u4 fun y I=>.inr (by omega)⟩⟩
  rw[bZ]at o4;exact o4.sl fun _ _ _ h=>h
 rintro Y p ⟨x,U⟩;obtain⟨q,A⟩:∃q,q=tA (bs,0):=⟨_,rfl⟩;have inv:q.2.2=0→bs=lZ q.1∧PtsI q.1:=fun e=>by rw[A]at e⊢;exact JP e
 have T:∀{b},Upd No p b→Sl tK 1 No b G bs:=fun k=>o.upd (U.tr k) fun _ h=>h.elim
 have sB:∀{b},Upd No p b→Sl tK 1 No b Y bs:=fun k=>x.upd k fun _ h=>h.elim
 have N:∀{f:ae} {K:Pt×Int→ae→Prop} (_:Upd No p f) (_:∀w (v:Pt),Upd No f w→(q.2.2=0→PtX (fun y=>y<f.size) w v q.1)→K (v,q.2.2) w),HC PG 7 [.slice G.a G.len G.cap] WQ K f:=fun{f K} k hk=>by
  refine Sd (T k) Q (by omega) (fun e b k'=>?_) fun e b v i k'=>?_
  ·rw[←A]at e⊢;exact hk b aaI k' fun e2=>absurd e2 e
  ·rw[←A]at e i;rw[←e];exact hk b v k' fun _=>i
 refine HC.mono (ks:= [.c .ptr,.c (.int .i64)]) (K:=fun(ve:Option Addr×Int) b=>Upd No p b∧ve.2=Gj q∧((Gj q≠0∧ve.1=none)∨(Gj q=0∧kX q.1=true∧∃sp vp sm pb cb s last ids es,ve.1=some ⟨sp,0,none⟩∧StPt s last es q.1∧Fm [nR sp vp sm pb cb last ids es] (Fv p vp s fun W h=>TsOk s (es.map (·.d)) W h) b))) (Rz x (by omega) A (fun e b k=>⟨k,rfl,.inl ⟨e,rfl⟩⟩) fun e X b sp vp sm pb cb s last ids es st g=>⟨g.f.k,e.symm,.inr ⟨e,X,sp,vp,sm,pb,cb,s,last,ids,es,rfl,st,g⟩⟩) ?_
 clear A;rintro⟨a,e⟩ f ⟨E,F,n⟩;(try simp only at F n)
 subst F;refine N E fun w v P hx=>?_
 refine bj fun h7 b7 k7=>dt b7 (by rfl) fun h8 d u8=>?_
 have d:h8[w.size]? =some (.cells (zR v).toArray 36 (0,0)):=d;have H:Upd No w h8:=k7.own u8 (ai _);have s6:=P.size;have s8:=H.size;refine Join.intro (fun(t:Int) b=>t=Gj q∧Upd No f b) (fun R j=>CondP.intro (fun c=>?_) fun c=>j _ _ ⟨?_,P.tr H⟩) ?_
 ·have c:q.2.2=0:=by simpa using c
  obtain⟨J,Z⟩:=inv c;have hl:=Bc q.1;rw[←J]at hl;refine⟨_,vc d 0,_,vc d 1,_,vc d 2,_,vc d 3,_,vc d 4,v.2.2.2.2.2.1,vc d 5,v.2.2.2.2.2.2.1,vc d 6,v.2.2.2.2.2.2.2.1,vc d 7,_,vc d 8,v.2.2.2.2.2.2.2.2.2,vc d 9,?_⟩;refine Iz (u:=v) (W:=fun y=>y<f.size) (fun y I=>by omega) (PtX.stab _ _ _ _ _ (hx c) H (fun _ h=>h.elim) fun y I=>⟨.inl I,by omega⟩) Z (by omega) fun b a e' F k'=>j _ _ ⟨?_,(P.tr H).tr k'⟩
  rw[F];exact(if_neg (fun h=>h c)).symm
 ·exact(if_pos (by simpa using c)).symm
 rintro t h9 ⟨rfl,L⟩;refine Join.intro (fun(t:Bool) b=>t=false∧Upd No f b) (fun R j=>?_) ?_
 ·refine CondP.intro (fun c=>absurd c (by simp)) fun _=>CondP.intro (fun c=>?_) fun _=>DN (sB (E.tr L)) (T (E.tr L)) (by omega) (j _ _ ⟨rfl,L⟩)
  exfalso;rcases n with⟨e,rfl⟩|⟨e,_,sp,_,_,_,_,_,_,_,_,rfl,_⟩
  ·simp[e]at c
  ·simp[e]at c
 rintro _ h10 ⟨rfl,D⟩;refine ay.2 (CondP.intro (fun c=>⟨rfl,((z.tr U).tr E).tr D⟩) fun c=>?_)
 have c:Gj q=0:=by simpa using c
 rcases n with⟨e,_⟩|⟨_,X,sp,vp,sm,pb,cb,s,last,ids,es,rfl,st,g⟩
 ·exact absurd c e
 have c2:q.2.2=0:=Decidable.byContradiction fun h=>by have:Gj q=q.2.2:=if_pos h;omega
 obtain⟨J,Z⟩:=inv c2;refine QO (g.up0 D) st Z X (by rw[←J];omega) fun h11 s11 B C=>?_
 rw[←J]at C;exact DN C (T B) (by omega) ⟨rfl,(z.tr U).tr B⟩
end Go.Proofs
