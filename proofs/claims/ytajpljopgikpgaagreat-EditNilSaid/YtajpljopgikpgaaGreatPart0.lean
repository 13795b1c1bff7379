/- A part of the proof that the named laws of this program answer true, whatever the input. -/
import Derived.Test.YtajpljopgikpgaaGreatTreeF0
import Derived.Test.YtajpljopgikpgaaGreatLaw0
import Derived.Test.YtajpljopgikpgaaGreatLift3
import Derived.Lib.Overlaps
import Derived.Sort.Walk0
open BitVec renaming ofInt→ad
open Int renaming fdiv→ey,toNat_natCast→aK
open List renaming flatMap_cons→ba,take_length→cG,length_take→aE,length_drop→aB,flatMap_append→bh,drop_zero→cP,append_assoc→ay,take_append_of_le_length→cJ,take_of_length_le→aV,length_append→ae,drop_left→gi,take_left→fg,size_toArray→bG,drop_eq_getElem_cons→gH,length_eq_zero_iff→bp,drop_left'→bH,take_left'→bW,drop_drop→cB,drop_append_of_le_length→dH,getElem?_eq_getElem→aq
open Nat renaming zero_add→ar,sub_self→mK,le_refl→av,lt_or_ge→bV,min_eq_left→aL,sub_zero→c7,min→bU,add_one_mul→dk,one_mul→jK,le_mul_of_pos_left→iU,min_eq_right→jp
namespace Go.Proofs
open Go.Lift
theorem xq(n:Int):0≤IntKind.wrap .u64 n∧IntKind.wrap .u64 n<18446744073709551616:=by rw[IntKind.wrap_u64];omega
theorem nT{x:Int}(h: -4611686018427387904≤x∧x≤4611686018427387904):IntKind.wrap .i64 x=x:=Go.IntWalk.i64_in _ (by omega)
theorem ke{i n:Nat}(h:i<n)(a:n≤4611686018427387904):IntKind.wrap .i64 ((i:Int)+1)=((i+1:Nat):Int):=by rw[nT (by omega)];omega
theorem qK{h:ac}{b i:Nat}{c:Array Value}{t:TypeId}{v:Value}{k:ac→Prop}(a:h[b]? =some (.cells c t (0,0)))
  (d:∀h',h'[b]? =some (.cells (c.setIfInBounds i v) t (0,0))→Upd (· =b) h h'→k h'):At (hset h ⟨b,i,none⟩ v) k:=by
 refine d _ ?_ (Upd.hset _ _ rfl);rw[td a,gp a]
def BX(a b:Int):Int:=IntKind.wrap .u64 (ad (IntKind.bits .u64) a&&&ad (IntKind.bits .u64) b).toNat
def de(a b:Int):Int:=IntKind.wrap .u64 (ad (IntKind.bits .u64) a^^^ad (IntKind.bits .u64) b).toNat
def A6(a b:Int):Int:=IntKind.wrap .u64 (ad (IntKind.bits .u64) a|||ad (IntKind.bits .u64) b).toNat
def xG(x n:Int):Int:=
 A6 (IntKind.wrap .u64 (x*2^(min (BX (IntKind.wrap .u64 n) 63).toNat (IntKind.bits .u64)))) (ey x (2^(min (IntKind.wrap .u64 (64-BX (IntKind.wrap .u64 n) 63)).toNat (IntKind.bits .u64))))
theorem qr{x n:Int}{h:ac}{K:Int→ac→Prop}(a:K (xG x n) h):HC PG bC [.int .u64 x,.int .i64 n] [.c (.int .u64)] K h:=by
 refine lR x n ?_;unfold gV;exact⟨(xq _).1,(xq _).1,a⟩
abbrev Q4:=Int×Int×Int×Int
def q4(s:Q4):Array Value:= #[.int .u64 s.1,.int .u64 s.2.1,.int .u64 s.2.2.1,.int .u64 s.2.2.2]
def CN(a b:Int):Int:=IntKind.wrap .u64 (a+b)
def B9(s:Q4):Q4:=(CN s.1 s.2.1,s.2)
def Cn(s:Q4):Q4:=(s.1,de (xG s.2.1 13) s.1,s.2.2)
def CU(s:Q4):Q4:=(xG s.1 32,s.2)
def Dg(s:Q4):Q4:=(s.1,s.2.1,CN s.2.2.1 s.2.2.2,s.2.2.2)
def DX(s:Q4):Q4:=(s.1,s.2.1,s.2.2.1,de (xG s.2.2.2 16) s.2.2.1)
def Ec(s:Q4):Q4:=(CN s.1 s.2.2.2,s.2)
def Ey(s:Q4):Q4:=(s.1,s.2.1,s.2.2.1,de (xG s.2.2.2 21) s.1)
def EI(s:Q4):Q4:=(s.1,s.2.1,CN s.2.2.1 s.2.1,s.2.2.2)
def s09(s:Q4):Q4:=(s.1,de (xG s.2.1 17) s.2.2.1,s.2.2)
def s10(s:Q4):Q4:=(s.1,s.2.1,xG s.2.2.1 32,s.2.2.2)
def xF(s:Q4):Q4:=s10 (s09 (EI (Ey (Ec (DX (Dg (CU (Cn (B9 s)))))))))
def ix:Nat→Q4→Q4
 |0,s=>s
 |n+1,s=>ix n (xF s)
theorem jb{h:ac}{b i:Nat}{t:TypeId}{s s':Q4}{v:Value}{k:ac→Prop}(d:h[b]? =some (.cells (q4 s) t (0,0))) (e:(q4 s).setIfInBounds i v=q4 s')
  (f:∀a,a[b]? =some (.cells (q4 s') t (0,0))→Upd (· =b) h a→k a):At (hset h ⟨b,i,none⟩ v) k:=
 qK d fun a c g=>f a (e▸c) g
theorem uy{n:Nat}(Y:n≤100){h:ac}{b:Nat}{t:TypeId}{s:Q4}(y:h[b]? =some (.cells (q4 s) t (0,0))) {K:Unit→ac→Prop}
  (N:∀v,v[b]? =some (.cells (q4 (ix n s)) t (0,0))→Upd (· =b) h v→K () v):HC PG ee [.pointer (some ⟨b,0,none⟩),.int .i64 n] [] K h:=by
 refine o6 _ _ ?_;unfold kF dT gg c5 nU;refine LoopP.ghost (fun(g:Nat×Q4) (Q:Int) v=>Q=(g.1:Int)∧g.1≤n∧v[b]? =some (.cells (q4 g.2) t (0,0))∧Upd (· =b) h v∧ix (n-g.1) g.2=ix n s) (fun g=>n-g.1) (0,s) ⟨rfl,Nat.zero_le _,y,Upd.refl _ _,rfl⟩ ?_
 rintro I ⟨i,s1⟩ Q v ⟨P,L,a,O,x⟩ R;simp only at P L a x;subst P;refine bi (fun q=>?_) fun T=>?_
 ·have q:i<n:=by omega
  have c:∀{h:ac} {s:Q4} {i:Nat},h[b]? =some (.cells (q4 s) t (0,0))→aP h ⟨b,0+i,none⟩=(q4 s)[i]?:=fun y=>by rw[ar];exact aH y
  have w:∀{h:ac} {s:Q4} {i:Nat},h[b]? =some (.cells (q4 s) t (0,0))→i<4→Wr h ⟨b,0+i,none⟩:=fun y L=>by rw[ar];exact fq y L
  simp only[show((0:Int)).toNat*1=0 from rfl,show((1:Int)).toNat*1=1 from rfl,show((2:Int)).toNat*1=2 from rfl,show((3:Int)).toNat*1=3 from rfl]
  refine⟨_,rfl,by decide,_,c (i:=0) a,_,rfl,by decide,_,c (i:=1) a,_,rfl,by decide,w (i:=0) a (by decide),jb (s':=B9 s1) a rfl fun W e H=>?_⟩
  refine⟨_,rfl,by decide,_,c (i:=1) e,_,rfl,by decide,_,c (i:=0) e,_,rfl,qr ⟨c (i:=0) e,by decide,w (i:=1) e (by decide),jb (s':=Cn (B9 s1)) e rfl fun Z u M=>?_⟩⟩
  refine⟨_,rfl,by decide,_,c (i:=0) u,_,rfl,qr ⟨by decide,w (i:=0) u (by decide),jb (s':=CU (Cn (B9 s1))) u rfl fun V p C=>?_⟩⟩
  refine⟨_,rfl,by decide,_,c (i:=2) p,_,rfl,by decide,_,c (i:=3) p,_,rfl,by decide,w (i:=2) p (by decide),jb (s':=Dg (CU (Cn (B9 s1)))) p rfl fun X d D=>?_⟩
  refine⟨_,rfl,by decide,_,c (i:=3) d,_,rfl,by decide,_,c (i:=2) d,_,rfl,qr ⟨c (i:=2) d,by decide,w (i:=3) d (by decide),jb (s':=DX (Dg (CU (Cn (B9 s1))))) d rfl fun h6 m F=>?_⟩⟩
  refine⟨_,rfl,by decide,_,c (i:=0) m,_,rfl,by decide,_,c (i:=3) m,_,rfl,by decide,w (i:=0) m (by decide),jb (s':=Ec (DX (Dg (CU (Cn (B9 s1)))))) m rfl fun h7 k G=>?_⟩
  refine⟨_,rfl,by decide,_,c (i:=3) k,_,rfl,by decide,_,c (i:=0) k,_,rfl,qr ⟨c (i:=0) k,by decide,w (i:=3) k (by decide),jb (s':=Ey (Ec (DX (Dg (CU (Cn (B9 s1))))))) k rfl fun h8 o E=>?_⟩⟩
  refine⟨_,rfl,by decide,_,c (i:=2) o,_,rfl,by decide,_,c (i:=1) o,_,rfl,by decide,w (i:=2) o (by decide),jb (s':=EI (Ey (Ec (DX (Dg (CU (Cn (B9 s1)))))))) o rfl fun h9 f J=>?_⟩
  refine⟨_,rfl,by decide,_,c (i:=1) f,_,rfl,by decide,_,c (i:=2) f,_,rfl,qr ⟨c (i:=2) f,by decide,w (i:=1) f (by decide),jb (s':=s09 (EI (Ey (Ec (DX (Dg (CU (Cn (B9 s1))))))))) f rfl fun S j A=>?_⟩⟩
  refine⟨_,rfl,by decide,_,c (i:=2) j,_,rfl,qr ⟨by decide,w (i:=2) j (by decide),jb (s':=xF s1) j rfl fun U z B=>?_⟩⟩
  rw[ke q (by omega)];refine R (i+1,xF s1) _ _ ⟨rfl,q,z,O.tr (H.tr (M.tr (C.tr (D.tr (F.tr (G.tr (E.tr (J.tr (A.tr B))))))))),?_⟩ (by simp only;omega);simp only;rw[←x,show n-i=(n-(i+1))+1 by omega];rfl
 ·obtain rfl:i=n:=by omega
  rw[mK]at x;have x:s1=ix i s:=x;rw[←x]at N;exact N _ a O
end Go.Proofs
namespace Go.Proofs
open Go.Lift
def CJ(s:ByteArray)(i:Nat):Int:=match s[i]? with|some b=>(b.toNat:Int)|none=>0
def Ew(b:Int)(n:Int):Int:=IntKind.wrap .u64 ((IntKind.wrap .u64 b)*2^(min n.toNat (IntKind.bits .u64)))
def wj(s:ByteArray):Nat→Int→Int
 |0,t=>t
 |k+1,t=>wj s k (A6 t (if k=0 then IntKind.wrap .u64 (CJ s 0)else Ew (CJ s k) ((8*k:Nat):Int)))
def ra(s:ByteArray):Int:=wj s s.size 0
theorem lm{s:ByteArray}{i:Nat}(h:i<s.size):∃b,s[i]? =some b∧CJ s i=(b.toNat:Int):=⟨s[i],getElem?_pos s i h,by simp[CJ,getElem?_pos s i h]⟩
theorem yT{s:ByteArray}(D:s.size≤8){h:ac}{K:Int→ac→Prop}(g:K (ra s) h):HC PG mB [.string s] [.c (.int .u64)] K h:=by
 refine yG s ?_;unfold tO;refine Join.intro (fun t f=>f=h∧1≤s.size∧wj s 1 t=wj s s.size 0) (fun H j=>?_) ?_
 ·refine Join.intro (fun t f=>f=h∧2≤s.size∧wj s 2 t=wj s s.size 0) (fun F o=>?_) ?_
  ·refine Join.intro (fun t f=>f=h∧3≤s.size∧wj s 3 t=wj s s.size 0) (fun Q k=>?_) ?_
   ·refine Join.intro (fun t f=>f=h∧4≤s.size∧wj s 4 t=wj s s.size 0) (fun R4 m=>?_) ?_
    ·refine Join.intro (fun t f=>f=h∧5≤s.size∧wj s 5 t=wj s s.size 0) (fun G n=>?_) ?_
     ·refine Join.intro (fun t f=>f=h∧6≤s.size∧wj s 6 t=wj s s.size 0) (fun M q=>?_) ?_
      ·refine Join.intro (fun t f=>f=h∧7≤s.size∧wj s 7 t=wj s s.size 0) (fun O p=>?_) ?_
       ·refine CondP.intro (fun e=>?_) fun x=>?_
        ·have e:s.size=8:=by have:=of_decide_eq_true (by simpa using e:decide ((s.size:Int)=8)=true);omega
         obtain⟨b,a,hv⟩:=lm (s:=s) (i:=7) (by omega);refine⟨b,by decide,a,by decide,p _ _ ⟨rfl,by omega,?_⟩⟩
         rw[e,←hv];rfl
        refine CondP.intro (fun e=>?_) fun A=>?_
        ·have e:s.size=7:=by have:=of_decide_eq_true (by simpa using e:decide ((s.size:Int)=7)=true);omega
         exact p _ _ ⟨rfl,by omega,by rw[e]⟩
        refine CondP.intro (fun e=>?_) fun z=>?_
        ·have e:s.size=6:=by have:=of_decide_eq_true (by simpa using e:decide ((s.size:Int)=6)=true);omega
         exact q _ _ ⟨rfl,by omega,by rw[e]⟩
        refine CondP.intro (fun e=>?_) fun v=>?_
        ·have e:s.size=5:=by have:=of_decide_eq_true (by simpa using e:decide ((s.size:Int)=5)=true);omega
         exact n _ _ ⟨rfl,by omega,by rw[e]⟩
        refine CondP.intro (fun e=>?_) fun y=>?_
        ·have e:s.size=4:=by have:=of_decide_eq_true (by simpa using e:decide ((s.size:Int)=4)=true);omega
         exact m _ _ ⟨rfl,by omega,by rw[e]⟩
        refine CondP.intro (fun e=>?_) fun B=>?_
        ·have e:s.size=3:=by have:=of_decide_eq_true (by simpa using e:decide ((s.size:Int)=3)=true);omega
         exact k _ _ ⟨rfl,by omega,by rw[e]⟩
        refine CondP.intro (fun e=>?_) fun w=>?_
        ·have e:s.size=2:=by have:=of_decide_eq_true (by simpa using e:decide ((s.size:Int)=2)=true);omega
         exact o _ _ ⟨rfl,by omega,by rw[e]⟩
        refine CondP.intro (fun e=>?_) fun u=>?_
        ·have e:s.size=1:=by have:=of_decide_eq_true (by simpa using e:decide ((s.size:Int)=1)=true);omega
         exact j _ _ ⟨rfl,by omega,by rw[e]⟩
        have e:s.size=0:=by
         have L:¬(s.size:Int)=1:=by simpa using u
         have N:¬(s.size:Int)=2:=by simpa using w
         have I:¬(s.size:Int)=3:=by simpa using B
         have q4:¬(s.size:Int)=4:=by simpa using y
         have E:¬(s.size:Int)=5:=by simpa using v
         have C:¬(s.size:Int)=6:=by simpa using z
         have J:¬(s.size:Int)=7:=by simpa using A
         have P:¬(s.size:Int)=8:=by simpa using x
         omega
        unfold ra at g;rw[e]at g;exact g
       ·rintro t _ ⟨rfl,c,d⟩
        obtain⟨b,a,hv⟩:=lm (s:=s) (i:=6) (by omega);refine⟨b,by decide,a,by decide,q _ _ ⟨rfl,by omega,?_⟩⟩
        rw[←d,←hv];rfl
      ·rintro t _ ⟨rfl,c,d⟩
       obtain⟨b,a,hv⟩:=lm (s:=s) (i:=5) (by omega);refine⟨b,by decide,a,by decide,n _ _ ⟨rfl,by omega,?_⟩⟩
       rw[←d,←hv];rfl
     ·rintro t _ ⟨rfl,c,d⟩
      obtain⟨b,a,hv⟩:=lm (s:=s) (i:=4) (by omega);refine⟨b,by decide,a,by decide,m _ _ ⟨rfl,by omega,?_⟩⟩
      rw[←d,←hv];rfl
    ·rintro t _ ⟨rfl,c,d⟩
     obtain⟨b,a,hv⟩:=lm (s:=s) (i:=3) (by omega);refine⟨b,by decide,a,by decide,k _ _ ⟨rfl,by omega,?_⟩⟩
     rw[←d,←hv];rfl
   ·rintro t _ ⟨rfl,c,d⟩
    obtain⟨b,a,hv⟩:=lm (s:=s) (i:=2) (by omega);refine⟨b,by decide,a,by decide,o _ _ ⟨rfl,by omega,?_⟩⟩
    rw[←d,←hv];rfl
  ·rintro t _ ⟨rfl,c,d⟩
   obtain⟨b,a,hv⟩:=lm (s:=s) (i:=1) (by omega);refine⟨b,by decide,a,by decide,j _ _ ⟨rfl,by omega,?_⟩⟩
   rw[←d,←hv];rfl
 ·rintro t _ ⟨rfl,c,d⟩
  obtain⟨b,a,hv⟩:=lm (s:=s) (i:=0) (by omega);refine⟨b,by decide,a,?_⟩
  unfold ra at g;rw[←d]at g;rw[←hv];exact g
end Go.Proofs
namespace Go.Proofs
open Go.Lift
def sC(m:Int)(s:Q4):Q4:=
 let r:=ix 2 (s.1,s.2.1,s.2.2.1,de s.2.2.2 m)
 (de r.1 m,r.2)
theorem yY{m:Int}{h:ac}{b:Nat}{t:TypeId}{s:Q4}(d:h[b]? =some (.cells (q4 s) t (0,0))) {K:Unit→ac→Prop}
  (j:∀h',h'[b]? =some (.cells (q4 (sC m s)) t (0,0))→Upd (· =b) h h'→K () h'):HC PG gt [.pointer (some ⟨b,0,none⟩),.int .u64 m] [] K h:=by
 refine qP _ _ ?_;unfold l6 dT gg c5 mp;have c:∀{h:ac} {s:Q4} {i:Nat},h[b]? =some (.cells (q4 s) t (0,0))→aP h ⟨b,0+i,none⟩=(q4 s)[i]?:=fun d=>by rw[ar];exact aH d
 have w:∀{h:ac} {s:Q4} {i:Nat},h[b]? =some (.cells (q4 s) t (0,0))→i<4→Wr h ⟨b,0+i,none⟩:=fun d q=>by rw[ar];exact fq d q
 simp only[show((0:Int)).toNat*1=0 from rfl,show((3:Int)).toNat*1=3 from rfl]
 refine⟨_,rfl,by decide,_,c (i:=3) d,_,rfl,by decide,w (i:=3) d (by decide),jb (s':=(s.1,s.2.1,s.2.2.1,de s.2.2.2 m)) d rfl fun v k g=>?_⟩
 refine uy (n:=2) (by omega) k fun x a e=>?_
 have p:sC m s=(de (ix 2 (s.1,s.2.1,s.2.2.1,de s.2.2.2 m)).1 m,(ix 2 (s.1,s.2.1,s.2.2.1,de s.2.2.2 m)).2):=by unfold sC;rfl
 rw[p]at j;generalize ix 2 (s.1,s.2.1,s.2.2.1,de s.2.2.2 m)=r at a j;refine⟨_,rfl,by decide,_,c (i:=0) a,_,rfl,by decide,w (i:=0) a (by decide),jb (s':=(de r.1 m,r.2)) a rfl fun u o f=>?_⟩
 exact j _ o (g.tr (e.tr f))
def sG:Nat→ByteArray→Q4→ByteArray×Q4
 |0,s,q=>(s,q)
 |n+1,s,q=>if 8≤s.size then sG n (s.extract 8 s.size) (sC (ra (s.extract 0 8)) q)else(s,q)
def Eo(r:Q4):Int:=de (de (de r.1 r.2.1) r.2.2.1) r.2.2.2
def En(q:Q4):Int:=Eo (ix 4 (q.1,q.2.1,de q.2.2.1 255,q.2.2.2))
def EH(n:Nat)(g:ByteArray×Q4):Int:=En (sC (A6 (ra g.1) (Ew (n:Int) 56)) g.2)
def Ck(k0 k1:Int)(s:ByteArray):Int:=
 EH s.size (sG s.size s (de k0 8317987319222330741,de k1 7237128888997146477,de k0 7816392313619706465,de k1 8387220255154660723))
theorem CF{a:ac}{b:Nat}{t:TypeId}{r:Q4}(f:a[b]? =some (.cells (q4 r) t (0,0))) {K:Int→Prop} (g:K (Eo r)):
  (((0:Int)≤(0:Int)∧(0:Int)<((4:Nat):Int))∧
   ∃v30:Int,aP a (adr ⟨b,0,none⟩ ((0:Int).toNat*1))=some (.int .u64 v30)∧
   (((0:Int)≤(1:Int)∧(1:Int)<((4:Nat):Int))∧
    ∃v31:Int,aP a (adr ⟨b,0,none⟩ ((1:Int).toNat*1))=some (.int .u64 v31)∧
    Bd (IntKind.wrap .u64 (ad (IntKind.bits .u64) v30^^^ad (IntKind.bits .u64) v31).toNat:Int) (fun n32=>
     (((0:Int)≤(2:Int)∧(2:Int)<((4:Nat):Int))∧
      ∃v33:Int,aP a (adr ⟨b,0,none⟩ ((2:Int).toNat*1))=some (.int .u64 v33)∧
      Bd (IntKind.wrap .u64 (ad (IntKind.bits .u64) n32^^^ad (IntKind.bits .u64) v33).toNat:Int) (fun e=>
       (((0:Int)≤(3:Int)∧(3:Int)<((4:Nat):Int))∧
        ∃v35:Int,aP a (adr ⟨b,0,none⟩ ((3:Int).toNat*1))=some (.int .u64 v35)∧
        Bd (IntKind.wrap .u64 (ad (IntKind.bits .u64) e^^^ad (IntKind.bits .u64) v35).toNat:Int) (fun d=>
         K d))))))):=by
 have c:∀{i:Nat},aP a ⟨b,0+i,none⟩=(q4 r)[i]?:=by intro i;rw[ar];exact aH f
 exact⟨by decide,_,c (i:=0),by decide,_,c (i:=1),by decide,_,c (i:=2),by decide,_,c (i:=3),g⟩
theorem CE{a:ac}{b:Nat}{t:TypeId}{q:Q4}(f:a[b]? =some (.cells (q4 q) t (0,0))) {K:Unit→ac→Prop}
  (p:∀h',h'[b]? =some (.cells (q4 (ix 4 (q.1,q.2.1,de q.2.2.1 255,q.2.2.2))) t (0,0))→Upd (· =b) a h'→K () h'):
  (((0:Int)≤(2:Int)∧(2:Int)<((4:Nat):Int))∧
   ∃v25:Int,aP a (adr ⟨b,0,none⟩ ((2:Int).toNat*1))=some (.int .u64 v25)∧
   Bd (IntKind.wrap .u64 (ad (IntKind.bits .u64) v25^^^ad (IntKind.bits .u64) 255).toNat:Int) (fun m=>
    (((0:Int)≤(2:Int)∧(2:Int)<((4:Nat):Int))∧
     (Wr a (adr ⟨b,0,none⟩ ((2:Int).toNat*1))∧
      At (hset a (adr ⟨b,0,none⟩ ((2:Int).toNat*1)) (.int .u64 m)) (fun k=>
       HC PG ee [.pointer (some ⟨b,0,none⟩),.int .i64 4] [] K k))))):=by
 have c:∀{i:Nat},aP a ⟨b,0+i,none⟩=(q4 q)[i]?:=by intro i;rw[ar];exact aH f
 refine⟨by decide,_,c (i:=2),by decide,by rw[show((2:Int)).toNat*1=2 from rfl,aX];exact fq f (by simp[q4]),?_⟩
 refine jb (s':=(q.1,q.2.1,de q.2.2.1 255,q.2.2.2)) f rfl fun s j d=>?_
 exact uy (n:=4) (by omega) j fun o g e=>p o g (d.tr e)
theorem bK{h:ac}{k:ac→Prop}(a:k h):At h k:=a
theorem Dd{k0 k1:Int}{s:ByteArray}{h:ac}{K:Int→ac→Prop}(C:∀p,Upd No h p→K (Ck k0 k1 s) p):HC PG qC [.agg #[.int .u64 k0,.int .u64 k1],.string s] [.c (.int .u64)] K h:=by
 refine As (k0,k1) s ?_;unfold uU dT gg nv aj c5 mp Ee D1 D6 Cd;have u:=Upd.hnew No h [.int .u64 k0,.int .u64 k1] lW;have b1:=cf h [.int .u64 k0,.int .u64 k1] lW;have M:=je h [.int .u64 k0,.int .u64 k1] lW;refine bK ?_;simp only[dK h];generalize hnew h [.int .u64 k0,.int .u64 k1] lW=h1 at u b1 M;refine⟨k0,by rw[aX,aH b1];rfl,k1,by rw[aX,aH b1];rfl,k0,by rw[aX,aH b1];rfl,k1,by rw[aX,aH b1];rfl,?_⟩
 have L:=Upd.hnew No h1 [.int .u64 0,.int .u64 0,.int .u64 0,.int .u64 0] eJ;have b2:=cf h1 [.int .u64 0,.int .u64 0,.int .u64 0,.int .u64 0] eJ;simp only[dK h1];simp only[Bd];refine bK ?_;refine⟨.inr ⟨_,rfl,fun j E=>by rw[aX];exact fq b2 (by simp at E⊢;omega)⟩,?_⟩
 refine bK ?_;rw[eG _ _ 0 0 _ b2 (by simp)];have b3:=gp (o:=.cells (q4 (de k0 8317987319222330741,de k1 7237128888997146477,de k0 7816392313619706465,de k1 8387220255154660723)) eJ (0,0)) b2;have O:Upd No h _:=u.tr (L.trans (M':=(· =h1.size)) (Upd.set (hnew h1 [.int .u64 0,.int .u64 0,.int .u64 0,.int .u64 0] eJ) (.cells (q4 (de k0 8317987319222330741,de k1 7237128888997146477,de k0 7816392313619706465,de k1 8387220255154660723)) eJ (0,0)) rfl) fun b a=>.inr (Nat.le_of_eq a.symm))
 refine LoopP.ghost (fun(g:Nat×Q4) (d:ByteArray) p=>d.size≤g.1∧p[h1.size]? =some (.cells (q4 g.2) eJ (0,0))∧Upd No h p∧sG g.1 d g.2=sG s.size s (de k0 8317987319222330741,de k1 7237128888997146477,de k0 7816392313619706465,de k1 8387220255154660723)) (fun g=>g.1) (s.size,_)
  ⟨av _,b3,O,rfl⟩ ?_
 rintro I ⟨n,q⟩ d p ⟨G,a,D,t⟩ H;simp only at G a t;have f:∀b,b=h1.size→No b∨h.size≤b:=fun b a=>.inr (by omega)
 refine bi (fun v=>?_) fun y=>?_
 ·have v:8≤d.size:=by omega
  cases n with
  |zero=>omega
  |succ n=>
   refine⟨by omega,yT (by rw[ByteArray.size_extract];show min 8 _-0≤8;omega) (yY a fun F e k=>⟨by omega,?_⟩)⟩
   have J:((8:Int)).toNat=8:=rfl;rw[J]at e⊢;refine H (n,sC (ra (d.extract 0 8)) q) _ _ ⟨by simp only[ByteArray.size_extract];omega,e,D.trans k f,?_⟩ (by simp only;omega);rw[←t];simp only[sG,if_pos v]
 ·have y:d.size<8:=by omega
  have t:(d,q)=sG s.size s (de k0 8317987319222330741,de k1 7237128888997146477,de k0 7816392313619706465,de k1 8387220255154660723):=by
   rw[←t];cases n with
   |zero=>rfl
   |succ n=>simp only[sG,if_neg (show ¬8≤d.size by omega)]
  have c:∀{h:ac} {s:Q4} {i:Nat},h[h1.size]? =some (.cells (q4 s) eJ (0,0))→aP h ⟨h1.size,0+i,none⟩=(q4 s)[i]?:=fun a=>by rw[ar];exact aH a
  have w:∀{h:ac} {s:Q4} {i:Nat},h[h1.size]? =some (.cells (q4 s) eJ (0,0))→i<4→Wr h ⟨h1.size,0+i,none⟩:=fun a N=>by rw[ar];exact fq a N
  have z:Ck k0 k1 s=En (sC (A6 (ra d) (Ew (s.size:Int) 56)) q):=by unfold Ck;rw[←t];rfl
  rw[z]at C;refine yT (by omega) ⟨by decide,yY (m:=A6 (ra d) (Ew (s.size:Int) 56)) a fun F e k=>?_⟩
  refine CE e fun B A x=>CF (K:=fun n=>K n B) A ?_
  exact C B ((D.trans k f).trans x f)
structure Hs where
 k0:Int
 k1:Int
 mask:Int
def jY(h:Hs)(s:ByteArray):Int:=BX (Ck h.k0 h.k1 s) h.mask
theorem vz{x:Hs}{s:ByteArray}{h:ac}{K:Int→ac→Prop}(c:∀h',Upd No h h'→K (jY x s) h'):HC PG eL [.agg #[.int .u64 x.k0,.int .u64 x.k1,.int .u64 x.mask],.string s] [.c (.int .u64)] K h:=by
 refine pU (x.k0,x.k1,x.mask) s ?_;unfold lq aj cT CY D8;have a:=Upd.hnew No h [.int .u64 x.k0,.int .u64 x.k1,.int .u64 x.mask] ft;have b1:=cf h [.int .u64 x.k0,.int .u64 x.k1,.int .u64 x.mask] ft;simp only[At,dK h];generalize hnew h [.int .u64 x.k0,.int .u64 x.k1,.int .u64 x.mask] ft=h1 at a b1;refine⟨x.k0,by rw[aX,aX,aH b1];rfl,x.k1,by rw[aX,aX,aH b1];rfl,x.mask,by rw[aX,aH b1];rfl,?_⟩
 refine Dd fun d b=>⟨by rw[aX,aH (b.get0 b1)];rfl,c _ (a.tr b)⟩
theorem wM(x:Hs)(s:ByteArray):0≤jY x s∧jY x s<18446744073709551616:=xq _
end Go.Proofs
namespace Go.Proofs
open Go Go.Lift
abbrev hH(x:ByteArray×ByteArray):List Value:= [.string x.1,.string x.2]
theorem iz(x:ByteArray×ByteArray):(hH x).length=2∧0<2:=⟨rfl,by omega⟩
theorem nL:∀xs:List (ByteArray×ByteArray),aY (xs.flatMap hH)=true
 | []=>rfl
 |x::xs=>by rw[ba];exact iB rfl (nL xs)
theorem vl{h:ac}{a b o c e d cb:Nat}{i cw:Array Value}{g tb:TypeId}(hv:h[a]? =some (.cells i g (0,0))) (k:h[b]? =some (.cells cw tb (0,0))) (n:a≠b) (j:cw.size≠0) {K:Bool→ac→Prop} (m:K false h):
  HC PG dU [.slice (some ⟨a,0,none⟩) c e,.slice (some ⟨b,o,none⟩) d cb] [.c .bool] K h:=by
 refine⟨fun w f=>.inr ⟨.bool false,w,?_,Tame.refl w,false,rfl,f▸m⟩⟩
 subst f;rw[j9];have:=Lib.run_overlaps_apart (P:=PG) w fS mq ah (by kernel_rfl) (aO PG ah) (jD (by kernel_rfl)) ⟨a,0,none⟩ ⟨b,o,none⟩ c e d cb n g tb i.size cw.size
  (by simp[World.shape?,hv]) (by simp[World.shape?,k]) j (by simp[World.frozen?,hv]) (by simp[World.frozen?,hv])
 rw[show([Value.slice (some ⟨a,0,none⟩) c e,Value.slice (some ⟨b,o,none⟩) d cb]:List Value).toArray= #[.slice (some ⟨a,0,none⟩) c e,.slice (some ⟨b,o,none⟩) d cb]from rfl,this]
 rfl
set_option maxRecDepth 4000 in
theorem yh{M:Nat→Prop}{h:ac}{s:SliceV}{xs:List (ByteArray×ByteArray)}(T:OwnS hH 2 ah M h s xs){k:Nat}(hkl:k≤xs.length)(hn:(xs.length+1)*32≤140737488355328){x:ByteArray×ByteArray}{m:Nat}(hv:h[m]? =some (.cells (hH x).toArray ah (0,0)))
  (hvM:¬M m) (V:∀b,h.size≤b→M b) {K:SliceV→ac→Prop} (hK:∀s' S,OwnS hH 2 ah M S s' (xs.take k++x::xs.drop k)→Upd M h S→K s' S):
  HC PG bm [.slice s.a s.len s.cap,.int .i64 k,.slice (some ⟨m,0,none⟩) 1 1] [.c .slice] K h:=by
 refine gz s k ⟨some ⟨m,0,none⟩,1,1⟩ ?_;unfold dM sd;have p:=T.len;have hcap:=T.cap;have G:SRow h (some ⟨m,0,none⟩) (1*2) (hH x):=⟨rfl,.inr ⟨_,rfl,mw hv fun i v hi=>by simpa using hi⟩⟩
 refine⟨by omega,al.2 ?_⟩;refine CondP.intro (fun e=>?_) fun e=>?_
 ·have e:k=xs.length:=by have:=of_decide_eq_true (by simpa using e:decide ((k:Int)=(s.len:Int))=true);omega
  subst e;refine⟨_,G,AppP.own (ys:= [x]) T rfl (by simp) rfl rfl (by omega) (by simp;omega) (V _ (av _)) fun s' S ho hu=>hK s' S ?_ hu⟩
  rw[cG,List.drop_length];exact ho
 have hlt:k<xs.length:=by
  rcases bV k xs.length with h|h
  ·exact h
  ·have:((k:Int)==(s.len:Int))=true:=by rw[beq_iff_eq];omega
   rw[this]at e;cases e
 rcases T.blk with h0|⟨b,j,ha,n,hc,hr⟩
 ·omega
 have d:((xs.take k).flatMap hH).length=k*2:=by rw[gw iz,aE,aL hkl]
 have o:((xs.drop k).flatMap hH).length=(xs.length-k)*2:=by rw[gw iz,aB]
 have O:m≠b:=fun e=>hvM (e▸n)
 rw[qF (f:=hH) xs k]at hc;have a:(xs.take k++x::xs.drop k).flatMap hH=(xs.take k).flatMap hH++(hH x++(xs.drop k).flatMap hH):=by rw[bh,ba]
 have g:=nL (xs.drop k);have c:(hH x).length=2:=rfl;have z:aY (hH x)=true:=rfl;generalize hAe:(xs.take k).flatMap hH=A at d hc a;generalize hBe:(xs.drop k).flatMap hH=B at o hc a g;generalize hH x=X at G c hv a z;rw[ha];have w1:IntKind.wrap .i64 ((xs.length:Int)+((1:Nat):Int))=((xs.length+1:Nat):Int):=by rw[nT (by omega)];omega
 have w2:IntKind.wrap .i64 ((k:Int)+((1:Nat):Int))=((k+1:Nat):Int):=by rw[nT (by omega)];omega
 have w3:IntKind.wrap .i64 (((xs.length+1:Nat):Int)-(k:Int))=((xs.length+1-k:Nat):Int):=by rw[nT (by omega)];omega
 simp only[w1,w2,w3,aK,p];refine bi (fun hgt=>?_) fun hle=>?_
 ·
  have P:s.cap=xs.length:=by omega
  refine Join.plain ⟨by omega,⟨by omega,by omega,by omega,by omega⟩,fun hin=>?_,fun N=>?_⟩
  ·omega
  ·refine⟨A,_,?_,rfl,by omega,Go.growslice_fits N (by omega),fun D C=>?_⟩
   ·rw[sub_zero]
    exact ge hc (by rw[d];omega) (by simp only[cP,c7];rw[ay,←d,cJ (av _),cG])
   ·simp only[aK]at C⊢
    have U:=Upd.hnew No h (A++cd (xs.length+1-k) [.string (⟨#[]⟩:ByteArray),.string (⟨#[]⟩:ByteArray)]++cd (D-(k-0+(xs.length+1-k))) [.string (⟨#[]⟩:ByteArray),.string (⟨#[]⟩:ByteArray)]) ah;have bn:=cf h (A++cd (xs.length+1-k) [.string (⟨#[]⟩:ByteArray),.string (⟨#[]⟩:ByteArray)]++cd (D-(k-0+(xs.length+1-k))) [.string (⟨#[]⟩:ByteArray),.string (⟨#[]⟩:ByteArray)]) ah
    have w:(cd (xs.length+1-k) [.string (⟨#[]⟩:ByteArray),.string (⟨#[]⟩:ByteArray)]).length=(xs.length+1-k)*2:=gP _ _;have W:(cd (D-(k-0+(xs.length+1-k))) [.string (⟨#[]⟩:ByteArray),.string (⟨#[]⟩:ByteArray)]).length=(D-(k-0+(xs.length+1-k)))*2:=gP _ _;have t:k-0+(xs.length+1-k)=xs.length+1:=by omega
    rw[dK];have hsz:h.size≠m:=fun e=>by have:=aW hv;omega
    have H:h.size≠b:=fun e=>by have:=aW hc;omega
    have Q:=U.get0 hc;have J:=U.get0 hv;generalize hnew h _ ah=h9 at U bn Q J;rw[t]at C W⊢;have Y:bU 1 (xs.length+1-k)=1:=aL (by omega);have m2:bU (xs.length-k) (xs.length+1-(k+1))=xs.length-k:=aL (by omega);rw[Y];have Z:SRow h9 (some ⟨m,0,none⟩) (1*2) X:=ge J (by rw[c]) (by rw[cP,aV];rw[c];omega)
    refine⟨by omega,?_⟩;rw[fu (by omega)];refine fH Z z bn (by simp only[ae,d,w];omega) fun h11 E u=>⟨by omega,?_⟩
    simp only[Bd];rw[fu (by omega),fu (by omega),m2];refine⟨by omega,?_⟩;have y:=u.get Q (fun e=>H e.symm)
    have br:SRow h11 (some ⟨b,0+k*2,none⟩) ((xs.length-k)*2) B:=ge y o (by
     rw[ar,ay,←d,gi,←o,fg])
    refine fH br g E ?_ fun h16 L I=>?_
    ·simp only[ae,aE,aB,d,w,c];omega
    ·refine hK _ _ ⟨by simp;omega,iz,C,.inr ⟨h.size,cd (D-(xs.length+1)) [.string (⟨#[]⟩:ByteArray),.string (⟨#[]⟩:ByteArray)],rfl,V _ (av _),?_,by rw[gP];rfl⟩⟩ ((U.wide.trans (M':=(· =h.size)) u fun b n=>.inl (n▸V _ (av _))).trans (M':=(· =h.size)) I fun b n=>.inl (n▸V _ (av _)))
     rw[L,a];have:=vv (A:=A) (X:=X) (B:=B) (Z1:=cd (xs.length+1-k) [.string (⟨#[]⟩:ByteArray),.string (⟨#[]⟩:ByteArray)]) (Z2:=cd (D-(xs.length+1)) [.string (⟨#[]⟩:ByteArray),.string (⟨#[]⟩:ByteArray)]) (r:=(xs.length-k)*2) d c (by rw[w,←dk];congr 1;omega);rw[t,←this];simp only[ar,dk,jK]
 ·have P:xs.length+1≤s.cap:=by omega
  refine⟨by omega,?_⟩;simp only[Bd,c7];rw[sub_zero,fu (show s.cap≠k+1 by omega),fu (show s.cap≠k by omega)]
  refine⟨by omega,?_⟩;have hrl:2≤j.length:=by rw[hr];exact iU _ (by omega)
  refine vl hv hc O (by rw[bG,ae];omega) ?_;refine ao.2 ⟨by omega,by omega,?_⟩
  have Y:bU 1 (xs.length+1-k)=1:=aL (by omega);have m2:bU (xs.length+1-k) (xs.length+1-(k+1))=xs.length-k:=by
   rw[show xs.length+1-(k+1)=xs.length-k by omega];exact jp (by omega)
  rw[m2];have br:SRow h (some ⟨b,0+k*2,none⟩) ((xs.length-k)*2) B:=ge hc o (by
   rw[ar,ay,←d,gi,←o,fg])
  refine fH br g hc (by simp only[ae,d,o];omega) fun h1 hb1 F=>⟨by omega,?_⟩
  rw[Y];have xr1:SRow h1 (some ⟨m,0,none⟩) (1*2) X:=ge (F.get hv O) (by rw[c]) (by rw[cP,aV];rw[c];omega);refine fH xr1 z hb1 (by simp only[ae,aE,aB,d,o];omega) fun h2 hb2 hu2=>?_
  refine hK _ _ ⟨by simp;omega,iz,P,.inr ⟨b,j.drop 2,rfl,n,?_,?_⟩⟩ ((F.mono fun _ e=>.inl (e▸n)).tr (hu2.mono fun _ e=>.inl (e▸n)))
  ·rw[hb2,a]
   have:=yj (A:=A) (X:=X) (B:=B) (R:=j) (q:=2) (r:=(xs.length-k)*2) d o hrl;rw[←this];simp only[ar,dk,jK]
  ·rw[aB,hr]
   simp only;rw[p];omega
abbrev j4(x:Option Addr):List Value:= [.pointer x]
theorem kj(x:Option Addr):(j4 x).length=1∧0<1:=⟨rfl,by omega⟩
theorem rV:∀xs:List (Option Addr),aY (xs.flatMap j4)=true
 | []=>rfl
 |x::xs=>by rw[ba];exact iB rfl (rV xs)
theorem vm{h:ac}{a b o c e d cb:Nat}{i cw:Array Value}{g tb:TypeId}(hv:h[a]? =some (.cells i g (0,0))) (k:h[b]? =some (.cells cw tb (0,0))) (n:a≠b) (j:cw.size≠0) {K:Bool→ac→Prop} (m:K false h):
  HC PG dF [.slice (some ⟨a,0,none⟩) c e,.slice (some ⟨b,o,none⟩) d cb] [.c .bool] K h:=by
 refine⟨fun w f=>.inr ⟨.bool false,w,?_,Tame.refl w,false,rfl,f▸m⟩⟩
 subst f;rw[jH];have:=Lib.run_overlaps_apart (P:=PG) w jM mq aJ (by kernel_rfl) (aO PG aJ) (jD (by kernel_rfl)) ⟨a,0,none⟩ ⟨b,o,none⟩ c e d cb n g tb i.size cw.size
  (by simp[World.shape?,hv]) (by simp[World.shape?,k]) j (by simp[World.frozen?,hv]) (by simp[World.frozen?,hv])
 rw[show([Value.slice (some ⟨a,0,none⟩) c e,Value.slice (some ⟨b,o,none⟩) d cb]:List Value).toArray= #[.slice (some ⟨a,0,none⟩) c e,.slice (some ⟨b,o,none⟩) d cb]from rfl,this]
 rfl
set_option maxRecDepth 4000 in
theorem yi{M:Nat→Prop}{h:ac}{s:SliceV}{xs:List (Option Addr)}(T:OwnS j4 1 aJ M h s xs){k:Nat}(hkl:k≤xs.length)(hn:(xs.length+1)*8≤140737488355328){x:Option Addr}{m:Nat}(hv:h[m]? =some (.cells (j4 x).toArray aJ (0,0)))
  (hvM:¬M m) (V:∀b,h.size≤b→M b) {K:SliceV→ac→Prop} (hK:∀s' S,OwnS j4 1 aJ M S s' (xs.take k++x::xs.drop k)→Upd M h S→K s' S):
  HC PG bf [.slice s.a s.len s.cap,.int .i64 k,.slice (some ⟨m,0,none⟩) 1 1] [.c .slice] K h:=by
 refine fI s k ⟨some ⟨m,0,none⟩,1,1⟩ ?_;unfold dh;have p:=T.len;have hcap:=T.cap;have G:SRow h (some ⟨m,0,none⟩) (1*1) (j4 x):=⟨rfl,.inr ⟨_,rfl,mw hv fun i v hi=>by simpa using hi⟩⟩
 refine⟨by omega,al.2 ?_⟩;refine CondP.intro (fun e=>?_) fun e=>?_
 ·have e:k=xs.length:=by have:=of_decide_eq_true (by simpa using e:decide ((k:Int)=(s.len:Int))=true);omega
  subst e;refine⟨_,G,AppP.own (ys:= [x]) T rfl (by simp) rfl rfl (by omega) (by simp;omega) (V _ (av _)) fun s' S ho hu=>hK s' S ?_ hu⟩
  rw[cG,List.drop_length];exact ho
 have hlt:k<xs.length:=by
  rcases bV k xs.length with h|h
  ·exact h
  ·have:((k:Int)==(s.len:Int))=true:=by rw[beq_iff_eq];omega
   rw[this]at e;cases e
 rcases T.blk with h0|⟨b,j,ha,n,hc,hr⟩
 ·omega
 have d:((xs.take k).flatMap j4).length=k*1:=by rw[gw kj,aE,aL hkl]
 have o:((xs.drop k).flatMap j4).length=(xs.length-k)*1:=by rw[gw kj,aB]
 have O:m≠b:=fun e=>hvM (e▸n)
 rw[qF (f:=j4) xs k]at hc;have a:(xs.take k++x::xs.drop k).flatMap j4=(xs.take k).flatMap j4++(j4 x++(xs.drop k).flatMap j4):=by rw[bh,ba]
 have g:=rV (xs.drop k);have c:(j4 x).length=1:=rfl;have z:aY (j4 x)=true:=rfl;generalize hAe:(xs.take k).flatMap j4=A at d hc a;generalize hBe:(xs.drop k).flatMap j4=B at o hc a g;generalize j4 x=X at G c hv a z;rw[ha];have w1:IntKind.wrap .i64 ((xs.length:Int)+((1:Nat):Int))=((xs.length+1:Nat):Int):=by rw[nT (by omega)];omega
 have w2:IntKind.wrap .i64 ((k:Int)+((1:Nat):Int))=((k+1:Nat):Int):=by rw[nT (by omega)];omega
 have w3:IntKind.wrap .i64 (((xs.length+1:Nat):Int)-(k:Int))=((xs.length+1-k:Nat):Int):=by rw[nT (by omega)];omega
 simp only[w1,w2,w3,aK,p];refine bi (fun hgt=>?_) fun hle=>?_
 ·
  have P:s.cap=xs.length:=by omega
  refine Join.plain ⟨by omega,⟨by omega,by omega,by omega,by omega⟩,fun hin=>?_,fun N=>?_⟩
  ·omega
  ·refine⟨A,_,?_,rfl,by omega,Go.growslice_fits N (by omega),fun D C=>?_⟩
   ·rw[sub_zero]
    exact ge hc (by rw[d];omega) (by simp only[cP,c7];rw[ay,←d,cJ (av _),cG])
   ·simp only[aK]at C⊢
    have U:=Upd.hnew No h (A++cd (xs.length+1-k) [.pointer none]++cd (D-(k-0+(xs.length+1-k))) [.pointer none]) aJ;have bn:=cf h (A++cd (xs.length+1-k) [.pointer none]++cd (D-(k-0+(xs.length+1-k))) [.pointer none]) aJ;have w:(cd (xs.length+1-k) [.pointer none]).length=(xs.length+1-k)*1:=gP _ _;have W:(cd (D-(k-0+(xs.length+1-k))) [.pointer none]).length=(D-(k-0+(xs.length+1-k)))*1:=gP _ _
    have t:k-0+(xs.length+1-k)=xs.length+1:=by omega
    rw[dK];have hsz:h.size≠m:=fun e=>by have:=aW hv;omega
    have H:h.size≠b:=fun e=>by have:=aW hc;omega
    have Q:=U.get0 hc;have J:=U.get0 hv;generalize hnew h _ aJ=h9 at U bn Q J;rw[t]at C W⊢;have Y:bU 1 (xs.length+1-k)=1:=aL (by omega);have m2:bU (xs.length-k) (xs.length+1-(k+1))=xs.length-k:=aL (by omega);rw[Y];have Z:SRow h9 (some ⟨m,0,none⟩) (1*1) X:=ge J (by rw[c]) (by rw[cP,aV];rw[c];omega)
    refine⟨by omega,?_⟩;rw[fu (by omega)];refine fH Z z bn (by simp only[ae,d,w];omega) fun h11 E u=>⟨by omega,?_⟩
    simp only[Bd];rw[fu (by omega),fu (by omega),m2];refine⟨by omega,?_⟩;have y:=u.get Q (fun e=>H e.symm)
    have br:SRow h11 (some ⟨b,0+k*1,none⟩) ((xs.length-k)*1) B:=ge y o (by
     rw[ar,ay,←d,gi,←o,fg])
    refine fH br g E ?_ fun h16 L I=>?_
    ·simp only[ae,aE,aB,d,w,c];omega
    ·refine hK _ _ ⟨by simp;omega,kj,C,.inr ⟨h.size,cd (D-(xs.length+1)) [.pointer none],rfl,V _ (av _),?_,by rw[gP];rfl⟩⟩ ((U.wide.trans (M':=(· =h.size)) u fun b n=>.inl (n▸V _ (av _))).trans (M':=(· =h.size)) I fun b n=>.inl (n▸V _ (av _)))
     rw[L,a];have:=vv (A:=A) (X:=X) (B:=B) (Z1:=cd (xs.length+1-k) [.pointer none]) (Z2:=cd (D-(xs.length+1)) [.pointer none]) (r:=(xs.length-k)*1) d c (by rw[w,←dk];congr 1;omega);rw[t,←this];simp only[ar,dk,jK]
 ·have P:xs.length+1≤s.cap:=by omega
  refine⟨by omega,?_⟩;simp only[Bd,c7];rw[sub_zero,fu (show s.cap≠k+1 by omega),fu (show s.cap≠k by omega)]
  refine⟨by omega,?_⟩;have hrl:1≤j.length:=by rw[hr];exact iU _ (by omega)
  refine vm hv hc O (by rw[bG,ae];omega) ?_;refine ao.2 ⟨by omega,by omega,?_⟩
  have Y:bU 1 (xs.length+1-k)=1:=aL (by omega);have m2:bU (xs.length+1-k) (xs.length+1-(k+1))=xs.length-k:=by
   rw[show xs.length+1-(k+1)=xs.length-k by omega];exact jp (by omega)
  rw[m2];have br:SRow h (some ⟨b,0+k*1,none⟩) ((xs.length-k)*1) B:=ge hc o (by
   rw[ar,ay,←d,gi,←o,fg])
  refine fH br g hc (by simp only[ae,d,o];omega) fun h1 hb1 F=>⟨by omega,?_⟩
  rw[Y];have xr1:SRow h1 (some ⟨m,0,none⟩) (1*1) X:=ge (F.get hv O) (by rw[c]) (by rw[cP,aV];rw[c];omega);refine fH xr1 z hb1 (by simp only[ae,aE,aB,d,o];omega) fun h2 hb2 hu2=>?_
  refine hK _ _ ⟨by simp;omega,kj,P,.inr ⟨b,j.drop 1,rfl,n,?_,?_⟩⟩ ((F.mono fun _ e=>.inl (e▸n)).tr (hu2.mono fun _ e=>.inl (e▸n)))
  ·rw[hb2,a]
   have:=yj (A:=A) (X:=X) (B:=B) (R:=j) (q:=1) (r:=(xs.length-k)*1) d o hrl;rw[←this];simp only[ar,dk,jK]
  ·rw[aB,hr]
   simp only;rw[p];omega
abbrev kR(x:Option Addr):List Value:= [.pointer x]
theorem lL(x:Option Addr):(kR x).length=1∧0<1:=⟨rfl,by omega⟩
theorem vn:∀xs:List (Option Addr),aY (xs.flatMap kR)=true
 | []=>rfl
 |x::xs=>by rw[ba];exact iB rfl (vn xs)
theorem vj{h:ac}{a b o c e d cb:Nat}{i cw:Array Value}{g tb:TypeId}(hv:h[a]? =some (.cells i g (0,0))) (k:h[b]? =some (.cells cw tb (0,0))) (n:a≠b) (j:cw.size≠0) {K:Bool→ac→Prop} (m:K false h):
  HC PG dy [.slice (some ⟨a,0,none⟩) c e,.slice (some ⟨b,o,none⟩) d cb] [.c .bool] K h:=by
 refine⟨fun w f=>.inr ⟨.bool false,w,?_,Tame.refl w,false,rfl,f▸m⟩⟩
 subst f;rw[jm];have:=Lib.run_overlaps_apart (P:=PG) w i2 mq ax (by kernel_rfl) (aO PG ax) (jD (by kernel_rfl)) ⟨a,0,none⟩ ⟨b,o,none⟩ c e d cb n g tb i.size cw.size
  (by simp[World.shape?,hv]) (by simp[World.shape?,k]) j (by simp[World.frozen?,hv]) (by simp[World.frozen?,hv])
 rw[show([Value.slice (some ⟨a,0,none⟩) c e,Value.slice (some ⟨b,o,none⟩) d cb]:List Value).toArray= #[.slice (some ⟨a,0,none⟩) c e,.slice (some ⟨b,o,none⟩) d cb]from rfl,this]
 rfl
set_option maxRecDepth 4000 in
theorem yg{M:Nat→Prop}{h:ac}{s:SliceV}{xs:List (Option Addr)}(T:OwnS kR 1 ax M h s xs){k:Nat}(hkl:k≤xs.length)(hn:(xs.length+1)*8≤140737488355328){x:Option Addr}{m:Nat}(hv:h[m]? =some (.cells (kR x).toArray ax (0,0)))
  (hvM:¬M m) (V:∀b,h.size≤b→M b) {K:SliceV→ac→Prop} (hK:∀s' S,OwnS kR 1 ax M S s' (xs.take k++x::xs.drop k)→Upd M h S→K s' S):
  HC PG ce [.slice s.a s.len s.cap,.int .i64 k,.slice (some ⟨m,0,none⟩) 1 1] [.c .slice] K h:=by
 refine fh s k ⟨some ⟨m,0,none⟩,1,1⟩ ?_;unfold cZ;have p:=T.len;have hcap:=T.cap;have G:SRow h (some ⟨m,0,none⟩) (1*1) (kR x):=⟨rfl,.inr ⟨_,rfl,mw hv fun i v hi=>by simpa using hi⟩⟩
 refine⟨by omega,al.2 ?_⟩;refine CondP.intro (fun e=>?_) fun e=>?_
 ·have e:k=xs.length:=by have:=of_decide_eq_true (by simpa using e:decide ((k:Int)=(s.len:Int))=true);omega
  subst e;refine⟨_,G,AppP.own (ys:= [x]) T rfl (by simp) rfl rfl (by omega) (by simp;omega) (V _ (av _)) fun s' S ho hu=>hK s' S ?_ hu⟩
  rw[cG,List.drop_length];exact ho
 have hlt:k<xs.length:=by
  rcases bV k xs.length with h|h
  ·exact h
  ·have:((k:Int)==(s.len:Int))=true:=by rw[beq_iff_eq];omega
   rw[this]at e;cases e
 rcases T.blk with h0|⟨b,j,ha,n,hc,hr⟩
 ·omega
 have d:((xs.take k).flatMap kR).length=k*1:=by rw[gw lL,aE,aL hkl]
 have o:((xs.drop k).flatMap kR).length=(xs.length-k)*1:=by rw[gw lL,aB]
 have O:m≠b:=fun e=>hvM (e▸n)
 rw[qF (f:=kR) xs k]at hc;have a:(xs.take k++x::xs.drop k).flatMap kR=(xs.take k).flatMap kR++(kR x++(xs.drop k).flatMap kR):=by rw[bh,ba]
 have g:=vn (xs.drop k);have c:(kR x).length=1:=rfl;have z:aY (kR x)=true:=rfl;generalize hAe:(xs.take k).flatMap kR=A at d hc a;generalize hBe:(xs.drop k).flatMap kR=B at o hc a g;generalize kR x=X at G c hv a z;rw[ha];have w1:IntKind.wrap .i64 ((xs.length:Int)+((1:Nat):Int))=((xs.length+1:Nat):Int):=by rw[nT (by omega)];omega
 have w2:IntKind.wrap .i64 ((k:Int)+((1:Nat):Int))=((k+1:Nat):Int):=by rw[nT (by omega)];omega
 have w3:IntKind.wrap .i64 (((xs.length+1:Nat):Int)-(k:Int))=((xs.length+1-k:Nat):Int):=by rw[nT (by omega)];omega
 simp only[w1,w2,w3,aK,p];refine bi (fun hgt=>?_) fun hle=>?_
 ·
  have P:s.cap=xs.length:=by omega
  refine Join.plain ⟨by omega,⟨by omega,by omega,by omega,by omega⟩,fun hin=>?_,fun N=>?_⟩
  ·omega
  ·refine⟨A,_,?_,rfl,by omega,Go.growslice_fits N (by omega),fun D C=>?_⟩
   ·rw[sub_zero]
    exact ge hc (by rw[d];omega) (by simp only[cP,c7];rw[ay,←d,cJ (av _),cG])
   ·simp only[aK]at C⊢
    have U:=Upd.hnew No h (A++cd (xs.length+1-k) [.pointer none]++cd (D-(k-0+(xs.length+1-k))) [.pointer none]) ax;have bn:=cf h (A++cd (xs.length+1-k) [.pointer none]++cd (D-(k-0+(xs.length+1-k))) [.pointer none]) ax;have w:(cd (xs.length+1-k) [.pointer none]).length=(xs.length+1-k)*1:=gP _ _;have W:(cd (D-(k-0+(xs.length+1-k))) [.pointer none]).length=(D-(k-0+(xs.length+1-k)))*1:=gP _ _
    have t:k-0+(xs.length+1-k)=xs.length+1:=by omega
    rw[dK];have hsz:h.size≠m:=fun e=>by have:=aW hv;omega
    have H:h.size≠b:=fun e=>by have:=aW hc;omega
    have Q:=U.get0 hc;have J:=U.get0 hv;generalize hnew h _ ax=h9 at U bn Q J;rw[t]at C W⊢;have Y:bU 1 (xs.length+1-k)=1:=aL (by omega);have m2:bU (xs.length-k) (xs.length+1-(k+1))=xs.length-k:=aL (by omega);rw[Y];have Z:SRow h9 (some ⟨m,0,none⟩) (1*1) X:=ge J (by rw[c]) (by rw[cP,aV];rw[c];omega)
    refine⟨by omega,?_⟩;rw[fu (by omega)];refine fH Z z bn (by simp only[ae,d,w];omega) fun h11 E u=>⟨by omega,?_⟩
    simp only[Bd];rw[fu (by omega),fu (by omega),m2];refine⟨by omega,?_⟩;have y:=u.get Q (fun e=>H e.symm)
    have br:SRow h11 (some ⟨b,0+k*1,none⟩) ((xs.length-k)*1) B:=ge y o (by
     rw[ar,ay,←d,gi,←o,fg])
    refine fH br g E ?_ fun h16 L I=>?_
    ·simp only[ae,aE,aB,d,w,c];omega
    ·refine hK _ _ ⟨by simp;omega,lL,C,.inr ⟨h.size,cd (D-(xs.length+1)) [.pointer none],rfl,V _ (av _),?_,by rw[gP];rfl⟩⟩ ((U.wide.trans (M':=(· =h.size)) u fun b n=>.inl (n▸V _ (av _))).trans (M':=(· =h.size)) I fun b n=>.inl (n▸V _ (av _)))
     rw[L,a];have:=vv (A:=A) (X:=X) (B:=B) (Z1:=cd (xs.length+1-k) [.pointer none]) (Z2:=cd (D-(xs.length+1)) [.pointer none]) (r:=(xs.length-k)*1) d c (by rw[w,←dk];congr 1;omega);rw[t,←this];simp only[ar,dk,jK]
 ·have P:xs.length+1≤s.cap:=by omega
  refine⟨by omega,?_⟩;simp only[Bd,c7];rw[sub_zero,fu (show s.cap≠k+1 by omega),fu (show s.cap≠k by omega)]
  refine⟨by omega,?_⟩;have hrl:1≤j.length:=by rw[hr];exact iU _ (by omega)
  refine vj hv hc O (by rw[bG,ae];omega) ?_;refine ao.2 ⟨by omega,by omega,?_⟩
  have Y:bU 1 (xs.length+1-k)=1:=aL (by omega);have m2:bU (xs.length+1-k) (xs.length+1-(k+1))=xs.length-k:=by
   rw[show xs.length+1-(k+1)=xs.length-k by omega];exact jp (by omega)
  rw[m2];have br:SRow h (some ⟨b,0+k*1,none⟩) ((xs.length-k)*1) B:=ge hc o (by
   rw[ar,ay,←d,gi,←o,fg])
  refine fH br g hc (by simp only[ae,d,o];omega) fun h1 hb1 F=>⟨by omega,?_⟩
  rw[Y];have xr1:SRow h1 (some ⟨m,0,none⟩) (1*1) X:=ge (F.get hv O) (by rw[c]) (by rw[cP,aV];rw[c];omega);refine fH xr1 z hb1 (by simp only[ae,aE,aB,d,o];omega) fun h2 hb2 hu2=>?_
  refine hK _ _ ⟨by simp;omega,lL,P,.inr ⟨b,j.drop 1,rfl,n,?_,?_⟩⟩ ((F.mono fun _ e=>.inl (e▸n)).tr (hu2.mono fun _ e=>.inl (e▸n)))
  ·rw[hb2,a]
   have:=yj (A:=A) (X:=X) (B:=B) (R:=j) (q:=1) (r:=(xs.length-k)*1) d o hrl;rw[←this];simp only[ar,dk,jK]
  ·rw[aB,hr]
   simp only;rw[p];omega
end Go.Proofs
namespace Go.Proofs
open Go Go.Lift
theorem uS{W:Nat→Prop}{h:ac}{s:SliceV}{xs:List (ByteArray×ByteArray)}(e:Sl hH 2 W h s xs)(p:xs.length*32≤140737488355328){K:SliceV→ac→Prop}
  (g:∀s' c,OwnS hH 2 ah (fun b=>h.size≤b) c s' xs→Upd No h c→K s' c):HC PG bT [.slice s.a s.len s.cap] [.c .slice] K h:=by
 refine gL s ?_;unfold dR sd;refine CondP.intro (fun d=>?_) (fun o=>?_)
 ·have d:s.a=none:=by simpa using d
  have hx:xs= []:=by
   by_cases hx:xs= []
   ·exact hx
   ·obtain⟨a,i,_⟩:=e.row hx
    rw[d]at i;cases i
  subst hx;exact g _ _ (OwnS.nil iz) (Upd.refl _ _)
 ·have j:=e.upd (Upd.hnew No h [] ah) (fun _ h=>h.elim)
  refine⟨_,j.srow,?_⟩;refine AppP.own (f:=hH) (M:=fun b=>h.size≤b) (xs:= []) (ys:=xs) ⟨rfl,iz,av _,.inl rfl⟩ e.len rfl (nL xs) rfl (by omega) (by simpa using p) (by rw[je];omega) fun s' c k n=>?_
  exact g _ _ k ((Upd.hnew No h [] ah).trans n fun b m=>.inr m)
theorem yw{M:Nat→Prop}{h:ac}{s:SliceV}{xs:List (ByteArray×ByteArray)}(t:OwnS hH 2 ah M h s xs){k:Nat}(y:k<xs.length)(N:xs.length≤4398046511104)
  {K:SliceV→ac→Prop}(I:∀s' h',OwnS hH 2 ah M h' s' (xs.take k++xs.drop (k+1))→Upd M h h'→K s' h'):
  HC PG cD [.slice s.a s.len s.cap,.int .i64 k,.int .i64 ((k+1:Nat):Int)] [.c .slice] K h:=by
 refine gA s k ((k+1:Nat):Int) ?_;unfold dN sd;have d:=t.len;have C:=t.cap;rcases t.blk with O|⟨b,a,G,u,hc,E⟩
 ·omega
 have p:((xs.take k).flatMap hH).length=k*2:=by rw[gw iz,aE,aL (by omega)]
 have m:((xs.drop (k+1)).flatMap hH).length=(xs.length-(k+1))*2:=by rw[gw iz,aB]
 have H:xs.flatMap hH=(xs.take k).flatMap hH++(hH xs[k]++(xs.drop (k+1)).flatMap hH):=by
  rw[←ba,←gH y];exact qF xs k
 rw[H]at hc;have f:=nL (xs.drop (k+1));have c:(xs.take k++xs.drop (k+1)).flatMap hH=(xs.take k).flatMap hH++(xs.drop (k+1)).flatMap hH:=bh;have F:(hH xs[k]).length=2:=rfl;generalize (xs.take k).flatMap hH=A at p hc c;generalize (xs.drop (k+1)).flatMap hH=B at m hc f c;generalize hH xs[k]=X at F hc;rw[G];simp only[d,aK];refine⟨by omega,by omega,by omega,CondP.intro (fun e=>?_) fun _=>?_⟩
 ·have:(k:Int)=((k+1:Nat):Int):=by simpa using e
  omega
 refine Join.plain ⟨by omega,by omega,B,?_,?_⟩
 ·by_cases j:xs.length=k+1
  ·exact⟨m,.inl (bp.1 (by rw[m,j,mK,Nat.zero_mul]))⟩
  rw[fu (by omega)];refine ge hc m ?_;have:(A++X).length=0+(k+1)*2:=by rw[ae];omega
  rw[show A++(X++B)++a=(A++X)++(B++a) by simp only[ay],bH this,bW m]
 ·rw[sub_zero]
  refine BU hc (by simp only[ae];omega) (by omega) f fun P i w=>?_
  have q:a.length=(s.cap-xs.length)*2:=by rw[E,d]
  refine⟨by dsimp only;omega,by dsimp only;omega,?_⟩
  simp only[Bd];rw[fu (by omega)];have J:xs.length-(k-0+(xs.length-(k+1)))=1:=by omega
  have z:(A++(X++B)++a).drop ((k-0)*2+B.length)=(X++B).drop B.length++a:=by
   rw[ay,←cB,bH (show A.length=(k-0)*2 by rw[p,c7]),dH (by rw[ae];omega)]
  have v:(A++(X++B)++a).take ((k-0)*2)=A:=by rw[ay,bW (show A.length=(k-0)*2 by rw[p,c7])]
  rw[z,v]at i;have n:((X++B).drop B.length).length=2:=by rw[aB,ae];omega
  generalize (X++B).drop B.length=D at n i;rw[J];have hz:(cd 1 [.string (⟨#[]⟩:ByteArray),.string (⟨#[]⟩:ByteArray)]).length=2:=rfl;have g:(A++B).length=0+(k-0+(xs.length-(k+1)))*2:=by rw[ae,p,m];omega
  refine y4 i (by simp only[ae]at g⊢;omega) fun L o x=>?_
  rw[bW g,←cB,bH g]at o;refine I _ _ ⟨by simp;omega,iz,by simp only;omega,.inr ⟨b,cd 1 [.string (⟨#[]⟩:ByteArray),.string (⟨#[]⟩:ByteArray)]++(D++a).drop (cd 1 [.string (⟨#[]⟩:ByteArray),.string (⟨#[]⟩:ByteArray)]).length,rfl,u,?_,?_⟩⟩ ((w.mono fun _ e=>.inl (e▸u)).tr (x.mono fun _ e=>.inl (e▸u)))
  ·rw[o,c];simp only[ay]
  ·simp only[ae,aB,hz,n,q]
   omega
theorem uT{W:Nat→Prop}{h:ac}{s:SliceV}{xs:List (Option Addr)}(e:Sl j4 1 W h s xs)(p:xs.length*8≤140737488355328){K:SliceV→ac→Prop}
  (g:∀s' c,OwnS j4 1 aJ (fun b=>h.size≤b) c s' xs→Upd No h c→K s' c):HC PG bL [.slice s.a s.len s.cap] [.c .slice] K h:=by
 refine fW s ?_;unfold dx;refine CondP.intro (fun d=>?_) (fun o=>?_)
 ·have d:s.a=none:=by simpa using d
  have hx:xs= []:=by
   by_cases hx:xs= []
   ·exact hx
   ·obtain⟨a,i,_⟩:=e.row hx
    rw[d]at i;cases i
  subst hx;exact g _ _ (OwnS.nil kj) (Upd.refl _ _)
 ·have j:=e.upd (Upd.hnew No h [] aJ) (fun _ h=>h.elim)
  refine⟨_,j.srow,?_⟩;refine AppP.own (f:=j4) (M:=fun b=>h.size≤b) (xs:= []) (ys:=xs) ⟨rfl,kj,av _,.inl rfl⟩ e.len rfl (rV xs) rfl (by omega) (by simpa using p) (by rw[je];omega) fun s' c k n=>?_
  exact g _ _ k ((Upd.hnew No h [] aJ).trans n fun b m=>.inr m)
theorem yx{M:Nat→Prop}{h:ac}{s:SliceV}{xs:List (Option Addr)}(t:OwnS j4 1 aJ M h s xs){k:Nat}(y:k<xs.length)(N:xs.length≤4398046511104)
  {K:SliceV→ac→Prop}(I:∀s' h',OwnS j4 1 aJ M h' s' (xs.take k++xs.drop (k+1))→Upd M h h'→K s' h'):
  HC PG cj [.slice s.a s.len s.cap,.int .i64 k,.int .i64 ((k+1:Nat):Int)] [.c .slice] K h:=by
 refine fJ s k ((k+1:Nat):Int) ?_;unfold di;have d:=t.len;have C:=t.cap;rcases t.blk with O|⟨b,a,G,u,hc,E⟩
 ·omega
 have p:((xs.take k).flatMap j4).length=k*1:=by rw[gw kj,aE,aL (by omega)]
 have m:((xs.drop (k+1)).flatMap j4).length=(xs.length-(k+1))*1:=by rw[gw kj,aB]
 have H:xs.flatMap j4=(xs.take k).flatMap j4++(j4 xs[k]++(xs.drop (k+1)).flatMap j4):=by
  rw[←ba,←gH y];exact qF xs k
 rw[H]at hc;have f:=rV (xs.drop (k+1));have c:(xs.take k++xs.drop (k+1)).flatMap j4=(xs.take k).flatMap j4++(xs.drop (k+1)).flatMap j4:=bh;have F:(j4 xs[k]).length=1:=rfl;generalize (xs.take k).flatMap j4=A at p hc c;generalize (xs.drop (k+1)).flatMap j4=B at m hc f c;generalize j4 xs[k]=X at F hc;rw[G];simp only[d,aK];refine⟨by omega,by omega,by omega,CondP.intro (fun e=>?_) fun _=>?_⟩
 ·have:(k:Int)=((k+1:Nat):Int):=by simpa using e
  omega
 refine Join.plain ⟨by omega,by omega,B,?_,?_⟩
 ·by_cases j:xs.length=k+1
  ·exact⟨m,.inl (bp.1 (by rw[m,j,mK,Nat.zero_mul]))⟩
  rw[fu (by omega)];refine ge hc m ?_;have:(A++X).length=0+(k+1)*1:=by rw[ae];omega
  rw[show A++(X++B)++a=(A++X)++(B++a) by simp only[ay],bH this,bW m]
 ·rw[sub_zero]
  refine BU hc (by simp only[ae];omega) (by omega) f fun P i w=>?_
  have q:a.length=(s.cap-xs.length)*1:=by rw[E,d]
  refine⟨by dsimp only;omega,by dsimp only;omega,?_⟩
  simp only[Bd];rw[fu (by omega)];have J:xs.length-(k-0+(xs.length-(k+1)))=1:=by omega
  have z:(A++(X++B)++a).drop ((k-0)*1+B.length)=(X++B).drop B.length++a:=by
   rw[ay,←cB,bH (show A.length=(k-0)*1 by rw[p,c7]),dH (by rw[ae];omega)]
  have v:(A++(X++B)++a).take ((k-0)*1)=A:=by rw[ay,bW (show A.length=(k-0)*1 by rw[p,c7])]
  rw[z,v]at i;have n:((X++B).drop B.length).length=1:=by rw[aB,ae];omega
  generalize (X++B).drop B.length=D at n i;rw[J];have hz:(cd 1 [.pointer none]).length=1:=rfl;have g:(A++B).length=0+(k-0+(xs.length-(k+1)))*1:=by rw[ae,p,m];omega
  refine y4 i (by simp only[ae]at g⊢;omega) fun L o x=>?_
  rw[bW g,←cB,bH g]at o;refine I _ _ ⟨by simp;omega,kj,by simp only;omega,.inr ⟨b,cd 1 [.pointer none]++(D++a).drop (cd 1 [.pointer none]).length,rfl,u,?_,?_⟩⟩ ((w.mono fun _ e=>.inl (e▸u)).tr (x.mono fun _ e=>.inl (e▸u)))
  ·rw[o,c];simp only[ay]
  ·simp only[ae,aB,hz,n,q]
   omega
theorem uR{W:Nat→Prop}{h:ac}{s:SliceV}{xs:List (Option Addr)}(e:Sl kR 1 W h s xs)(p:xs.length*8≤140737488355328){K:SliceV→ac→Prop}
  (g:∀s' c,OwnS kR 1 ax (fun b=>h.size≤b) c s' xs→Upd No h c→K s' c):HC PG bA [.slice s.a s.len s.cap] [.c .slice] K h:=by
 refine fy s ?_;unfold c6;refine CondP.intro (fun d=>?_) (fun o=>?_)
 ·have d:s.a=none:=by simpa using d
  have hx:xs= []:=by
   by_cases hx:xs= []
   ·exact hx
   ·obtain⟨a,i,_⟩:=e.row hx
    rw[d]at i;cases i
  subst hx;exact g _ _ (OwnS.nil lL) (Upd.refl _ _)
 ·have j:=e.upd (Upd.hnew No h [] ax) (fun _ h=>h.elim)
  refine⟨_,j.srow,?_⟩;refine AppP.own (f:=kR) (M:=fun b=>h.size≤b) (xs:= []) (ys:=xs) ⟨rfl,lL,av _,.inl rfl⟩ e.len rfl (vn xs) rfl (by omega) (by simpa using p) (by rw[je];omega) fun s' c k n=>?_
  exact g _ _ k ((Upd.hnew No h [] ax).trans n fun b m=>.inr m)
end Go.Proofs
namespace Go.Proofs
open Go.Lift
abbrev Pr:=ByteArray×ByteArray
theorem qG{a b:ByteArray}:a.toList=b.toList↔a=b:=by
 constructor
 ·intro h
  rw[ByteArray.toList_eq,ByteArray.toList_eq]at h;cases a;cases b;simp at h;subst h;rfl
 ·rintro rfl;rfl
def kl(a b:ByteArray):Prop:=Op.bytesLess a.toList b.toList=true
instance (a b:ByteArray):Decidable (kl a b):=inferInstanceAs (Decidable (_=true))
theorem x9{a b:ByteArray}:kl a b↔a.toList<b.toList:=by unfold kl;rw[bytesLess_eq,decide_eq_true_iff]
theorem dL(a:ByteArray):¬kl a a:=by rw[x9];exact List.lt_irrefl _
theorem km{a b c:ByteArray}(h:kl a b)(k:kl b c):kl a c:=by rw[x9]at*;exact List.lt_trans h k
theorem tri:∀x y:List UInt8,Op.bytesLess x y=false→x≠y→Op.bytesLess y x=true
 | [],[],_,h=>absurd rfl h
 | [],_::_,h,_=>by simp[Op.bytesLess]at h
 |_::_,[],_,_=>rfl
 |a::x,b::y,h,hn=>by
  simp only[Op.bytesLess,Bool.or_eq_false_iff,decide_eq_false_iff_not,Bool.and_eq_false_iff]at h;simp only[Op.bytesLess,Bool.or_eq_true,decide_eq_true_iff,Bool.and_eq_true];by_cases e:a=b
  ·subst e
   right;refine⟨by simp,tri x y ?_ fun e=>hn (by rw[e])⟩
   rcases h.2 with h|h
   ·simp at h
   ·exact h
  ·left
   have c:=h.1;rw[UInt8.lt_iff_toNat_lt]at c⊢;have:a.toNat≠b.toNat:=fun h=>e (UInt8.toNat_inj.1 h)
   omega
theorem vu{a b:ByteArray}(h:¬kl a b)(k:a≠b):kl b a:=tri _ _ (by unfold kl at h;simpa using h) fun e=>k (qG.1 e)
def w6(a b:ByteArray):Int:=if kl a b then-1 else if a=b then 0 else 1
theorem wI{x:ByteArray}{h:ac}{K:Bool→ac→Prop}(a:K false h):HC PG g5 [.string x] [.c .bool] K h:=by
 refine rS x ?_;unfold mW;simpa using a
theorem yy{a b:ByteArray}{h:ac}{K:Int→ac→Prop}(c:K (w6 a b) h):HC PG iP [.string a,.string b] [.c (.int .i64)] K h:=by
 refine p7 a b ?_;unfold lH;refine wI (wI (al.2 (al.2 ?_)));unfold w6 at c;refine CondP.intro (fun e=>?_) fun e=>?_
 ·rw[if_pos (show kl a b from e)]at c;exact c
 ·have f:¬kl a b:=fun h=>by rw[show Op.bytesLess a.toList b.toList=true from h]at e;cases e
  rw[if_neg f]at c;rw[e];refine CondP.intro (fun d=>?_) fun d=>?_
  ·rw[if_neg (fun h=>by subst h;simp at d)]at c;exact c
  ·have:a.toList=b.toList:=by simpa using d
   rw[if_pos (qG.1 this)]at c;exact c
theorem A5{p:Pr}{k:ByteArray}{h:ac}{K:Int→ac→Prop}(a:∀h',Upd No h h'→K (w6 p.1 k) h'):HC PG j7 [.agg #[.string p.1,.string p.2],.string k] [.c (.int .i64)] K h:=by
 refine vN p k ?_;unfold qb aw qk uY;have b1:=cf h [.string p.1,.string p.2] ah;refine⟨p.1,by rw[dK,aX,aH b1];rfl,yy (a _ (Upd.hnew No h _ _))⟩
abbrev eO(l:List Pr):Prop:=l.Pairwise fun p q=>kl p.1 q.1
def mZ(l:List Pr)(k:ByteArray):Nat:=(l.takeWhile fun p=>decide (kl p.1 k)).length
def cK(l:List Pr)(k:ByteArray):Bool:=l.any fun p=>decide (p.1=k)
theorem AZ{l:List Pr}{k:ByteArray}{i:Nat}(a:i≤l.length)(c:∀j (h:j<l.length),j<i→kl l[j].1 k)(b:∀(h:i<l.length),¬kl l[i].1 k):mZ l k=i:=by
 unfold mZ;induction l generalizing i with
 |nil=>simp at a;simp[a]
 |cons p l ih=>
  rw[List.takeWhile_cons];cases i with
  |zero=>
   have:=b (by simp);simp only[List.getElem_cons_zero]at this;rw[if_neg (by simpa using this)];rfl
  |succ i=>
   have:=c 0 (by simp) (by omega);simp only[List.getElem_cons_zero]at this;rw[if_pos (by simpa using this),List.length_cons];congr 1
   refine ih (by simpa using a) (fun j d e=>?_) fun h=>?_
   ·have:=c (j+1) (by simpa using d) (by omega)
    simpa using this
   ·have:=b (by simpa using h)
    simpa using this
theorem Dn(l:List Pr)(k:ByteArray):mZ l k≤l.length:=by
 unfold mZ;exact(List.takeWhile_prefix _).length_le
theorem zn{W:Nat→Prop}{h:ac}{s:SliceV}{l:List Pr}(T:Sl hH 2 W h s l)(hr:eO l)(hn:l.length≤1000000000)(k:ByteArray){K:Int×Bool→ac→Prop}
  (E:∀z,Upd No h z→K ((mZ l k:Int),cK l k) z):HC PG lf [.slice s.a s.len s.cap,.string k] [.c (.int .i64),.c .bool] K h:=by
 refine xd s k ?_;unfold rB;refine d9 s k _ ?_;unfold cu gg m4 yd dZ;have Z:=T.len;have H:∀{p:Pr} {h:ac} {K:Int→ac→Prop},(∀z,Upd No h z→K (w6 p.1 k) z)→HV PG (.func (.func j7) #[] #[]) [.agg #[.string p.1,.string p.2],.string k] [.c (.int .i64)] K h:=fun E=>HV.mk' (A5 E)
 refine LoopP.ghost (fun(g:Nat×Nat) (t:Int×Int) z=>t.1=(g.1:Int)∧t.2=(g.2:Int)∧g.1≤g.2∧g.2≤l.length∧Upd No h z∧(∀j (O:j<l.length),j<g.1→kl l[j].1 k)∧(∀j (O:j<l.length),g.2≤j→¬kl l[j].1 k)) (fun g=>g.2-g.1) (0,l.length)
  ⟨rfl,by simp only;omega,by simp,by simp,Upd.refl _ _,fun j O h=>by omega,fun j O h=>by simp only at h;omega⟩ ?_
 rintro I ⟨i,j⟩ ⟨ti,tj⟩ z ⟨V,Y,A,D,G,n,v⟩ X;simp only at V Y A D n v;subst V Y;have L:=T.upd G fun _ h=>h.elim
 have mono:∀a b (F:a<l.length) (U:b<l.length),a<b→kl l[a].1 l[b].1:=fun a b F U Q=>List.pairwise_iff_getElem.1 hr a b F U Q
 refine bi (fun u=>?_) fun R=>?_
 ·have u:i<j:=by have:(i:Int)<(j:Int):=u;omega
  have em:IntKind.wrap .i64 (ey (IntKind.wrap .u64 (IntKind.wrap .i64 ((i:Int)+(j:Int)))) (2^(min (1:Int).toNat (IntKind.bits .u64))))=(((i+j)/2:Nat):Int):=by
   have e3:(2^(min (1:Int).toNat (IntKind.bits .u64)):Int)=2:=rfl;rw[e3,nT (x:=(i:Int)+(j:Int)) (by omega),Go.IntWalk.u64_in _ (by omega),Int.fdiv_eq_ediv_of_nonneg _ (by omega),nT (by omega)];omega
  refine⟨by decide,?_⟩;simp only[Bd];rw[em];generalize hm:(i+j)/2=m;have C:m<l.length:=by omega
  obtain⟨a,F,_,hv⟩:=L.at (aq C);refine⟨by omega,a,F,l[m].1,hv 0 _ rfl,l[m].2,hv 1 _ rfl,H fun h2 w=>?_⟩
  refine bi (fun o=>?_) fun J=>?_
  ·have c:kl l[m].1 k:=by
    unfold w6 at o;by_cases c:kl l[m].1 k
    ·exact c
    ·rw[if_neg c]at o;split at o<;>omega
   refine X (m+1,j) _ _ ⟨by simp only;rw[nT (by omega)];omega,rfl,by simp only;omega,D,G.tr w,fun q y B=>?_,v⟩ (by simp only;omega)
   simp only at B;rcases bV q m with h|h
   ·exact km (mono q m y C h) c
   ·have:q=m:=by omega
    subst this;exact c
  ·have f:¬kl l[m].1 k:=fun c=>J (by unfold w6;rw[if_pos c];decide)
   refine X (i,m) _ _ ⟨rfl,rfl,by simp only;omega,by simp only;omega,G.tr w,n,fun q y B N=>?_⟩ (by simp only;omega)
   simp only at B;rcases bV m q with h|h
   ·exact f (km (mono m q C y h) N)
   ·have:q=m:=by omega
    subst this;exact f N
 ·have A:i=j:=by have:¬(i:Int)<(j:Int):=R;omega
  subst A;have M:mZ l k=i:=AZ D n fun hi=>v i hi (av _)
  rw[M]at E;refine bi (fun u=>?_) fun S=>?_
  ·have d:i<l.length:=by have:(i:Int)<(s.len:Int):=u;omega
   obtain⟨a,F,_,hv⟩:=L.at (aq d);refine⟨by simp only;omega,a,F,l[i].1,hv 0 _ rfl,l[i].2,hv 1 _ rfl,H fun h2 w=>?_⟩
   have f:=v i d (av _);have P:(w6 l[i].1 k==(0:Int))=cK l k:=by
    unfold w6 cK;rw[if_neg f,Bool.eq_iff_iff,List.any_eq_true];constructor
    ·intro h
     split at h
     ·rename_i e;exact⟨l[i],List.getElem_mem d,decide_eq_true e⟩
     ·simp at h
    ·rintro⟨p,M,e⟩
     have e:=of_decide_eq_true e;obtain⟨q,y,rfl⟩:=List.mem_iff_getElem.1 M;have:q=i:=by
      rcases Nat.lt_trichotomy q i with h|h|h
      ·exact absurd (e▸n q y h) (dL _)
      ·exact h
      ·exact absurd (e▸mono i q d y h) f
     subst this;rw[if_pos e];rfl
   rw[P];exact E _ (G.tr w)
  ·have d:i=l.length:=by have:¬(i:Int)<(s.len:Int):=S;omega
   have P:cK l k=false:=by
    unfold cK;rw[List.any_eq_false];intro p M e;have e:=of_decide_eq_true e;obtain⟨q,y,rfl⟩:=List.mem_iff_getElem.1 M;exact absurd (e▸n q y (by omega)) (dL _)
   rw[P]at E;exact E _ G
end Go.Proofs
