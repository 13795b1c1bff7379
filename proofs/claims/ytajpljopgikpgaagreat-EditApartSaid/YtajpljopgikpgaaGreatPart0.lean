/- A part of the proof that the named laws of this program answer true, whatever the input. -/
import Derived.Test.YtajpljopgikpgaaGreatTreeF0
import Derived.Test.YtajpljopgikpgaaGreatTreeF1
import Derived.Test.YtajpljopgikpgaaGreatLaw0
import Derived.Test.YtajpljopgikpgaaGreatLift3
import Derived.Lib.Overlaps
import Derived.Sort.Walk0
open BitVec renaming ofInt→ah
open ByteArray renaming size_extract→li
open Int renaming fdiv→eL,toNat_natCast→aN
open List renaming flatMap_cons→aJ,take_length→cP,length_take→aK,length_drop→aH,flatMap_append→be,drop_zero→cF,append_assoc→ao,take_append_of_le_length→dF,take_of_length_le→bc,length_append→af,drop_left→fS,take_left→fP,size_toArray→co,drop_eq_getElem_cons→fW,length_eq_zero_iff→bF,drop_left'→bN,take_left'→bV,drop_drop→cS,drop_append_of_le_length→dI,getElem?_eq_getElem→aj
open Nat renaming zero_add→aC,sub_self→m3,le_refl→aw,lt_or_ge→bP,min_eq_left→aW,sub_zero→dA,min→cK,add_one_mul→eD,one_mul→mw,le_mul_of_pos_left→lf,min_eq_right→lU,zero_mul→qp
namespace Go.Proofs
open Go.Lift
theorem Dg(n:Int):0≤IntKind.wrap .u64 n∧IntKind.wrap .u64 n<18446744073709551616:=by rw[IntKind.wrap_u64];omega
theorem nT{x:Int}(h: -4611686018427387904≤x∧x≤4611686018427387904):IntKind.wrap .i64 x=x:=Go.IntWalk.i64_in _ (by omega)
theorem fY{i n:Nat}(h:i<n)(a:n≤4611686018427387904):IntKind.wrap .i64 ((i:Int)+1)=((i+1:Nat):Int):=by rw[nT (by omega)];omega
theorem vI{h:ae}{b i:Nat}{c:Array Value}{t:TypeId}{v:Value}{k:ae→Prop}(a:h[b]? =some (.cells c t (0,0)))
  (d:∀h',h'[b]? =some (.cells (c.setIfInBounds i v) t (0,0))→Upd (· =b) h h'→k h'):At (hset h ⟨b,i,none⟩ v) k:=by
 refine d _ ?_ (Upd.hset _ _ rfl);rw[yq a,iY a]
def Ir(a b:Int):Int:=IntKind.wrap .u64 (ah (IntKind.bits .u64) a&&&ah (IntKind.bits .u64) b).toNat
def ey(a b:Int):Int:=IntKind.wrap .u64 (ah (IntKind.bits .u64) a^^^ah (IntKind.bits .u64) b).toNat
def Hr(a b:Int):Int:=IntKind.wrap .u64 (ah (IntKind.bits .u64) a|||ah (IntKind.bits .u64) b).toNat
def Dv(x n:Int):Int:=
 Hr (IntKind.wrap .u64 (x*2^(min (Ir (IntKind.wrap .u64 n) 63).toNat (IntKind.bits .u64)))) (eL x (2^(min (IntKind.wrap .u64 (64-Ir (IntKind.wrap .u64 n) 63)).toNat (IntKind.bits .u64))))
theorem vi{x n:Int}{h:ae}{K:Int→ae→Prop}(a:K (Dv x n) h):HC PG cj [.int .u64 x,.int .i64 n] [.c (.int .u64)] K h:=by
 refine pk x n ?_;unfold jR;exact⟨(Dg _).1,(Dg _).1,a⟩
abbrev Q4:=Int×Int×Int×Int
def q4(s:Q4):Array Value:= #[.int .u64 s.1,.int .u64 s.2.1,.int .u64 s.2.2.1,.int .u64 s.2.2.2]
def Jt(a b:Int):Int:=IntKind.wrap .u64 (a+b)
def IB(s:Q4):Q4:=(Jt s.1 s.2.1,s.2)
def IX(s:Q4):Q4:=(s.1,ey (Dv s.2.1 13) s.1,s.2.2)
def JB(s:Q4):Q4:=(Dv s.1 32,s.2)
def J0(s:Q4):Q4:=(s.1,s.2.1,Jt s.2.2.1 s.2.2.2,s.2.2.2)
def KQ(s:Q4):Q4:=(s.1,s.2.1,s.2.2.1,ey (Dv s.2.2.2 16) s.2.2.1)
def K9(s:Q4):Q4:=(Jt s.1 s.2.2.2,s.2)
def Lx(s:Q4):Q4:=(s.1,s.2.1,s.2.2.1,ey (Dv s.2.2.2 21) s.1)
def LI(s:Q4):Q4:=(s.1,s.2.1,Jt s.2.2.1 s.2.1,s.2.2.2)
def s09(s:Q4):Q4:=(s.1,ey (Dv s.2.1 17) s.2.2.1,s.2.2)
def s10(s:Q4):Q4:=(s.1,s.2.1,Dv s.2.2.1 32,s.2.2.2)
def Du(s:Q4):Q4:=s10 (s09 (LI (Lx (K9 (KQ (J0 (JB (IX (IB s)))))))))
def kG:Nat→Q4→Q4
 |0,s=>s
 |n+1,s=>kG n (Du s)
theorem lH{h:ae}{b i:Nat}{t:TypeId}{s s':Q4}{v:Value}{k:ae→Prop}(f:h[b]? =some (.cells (q4 s) t (0,0))) (e:(q4 s).setIfInBounds i v=q4 s')
  (g:∀a,a[b]? =some (.cells (q4 s') t (0,0))→Upd (· =b) h a→k a):At (hset h ⟨b,i,none⟩ v) k:=
 vI f fun a c d=>g a (e▸c) d
theorem zN{n:Nat}(Z:n≤100){h:ae}{b:Nat}{t:TypeId}{s:Q4}(A:h[b]? =some (.cells (q4 s) t (0,0))) {K:Unit→ae→Prop}
  (O:∀x,x[b]? =some (.cells (q4 (kG n s)) t (0,0))→Upd (· =b) h x→K () x):HC PG fM [.pointer (some ⟨b,0,none⟩),.int .i64 n] [] K h:=by
 refine tp _ _ ?_;unfold nB cG f6 cZ pW;refine LoopP.ghost (fun(g:Nat×Q4) (Q:Int) x=>Q=(g.1:Int)∧g.1≤n∧x[b]? =some (.cells (q4 g.2) t (0,0))∧Upd (· =b) h x∧kG (n-g.1) g.2=kG n s) (fun g=>n-g.1) (0,s) ⟨rfl,Nat.zero_le _,A,Upd.refl _ _,rfl⟩ ?_
 rintro I ⟨i,d⟩ Q x ⟨P,hi,a,N,y⟩ U;simp only at P hi a y;subst P;refine bf (fun u=>?_) fun R=>?_
 ·have u:i<n:=by omega
  have c:∀{h:ae} {s:Q4} {i:Nat},h[b]? =some (.cells (q4 s) t (0,0))→aQ h ⟨b,0+i,none⟩=(q4 s)[i]?:=fun A=>by rw[aC];exact aV A
  have w:∀{h:ae} {s:Q4} {i:Nat},h[b]? =some (.cells (q4 s) t (0,0))→i<4→Wr h ⟨b,0+i,none⟩:=fun A hi=>by rw[aC];exact gL A hi
  simp only[show((0:Int)).toNat*1=0 from rfl,show((1:Int)).toNat*1=1 from rfl,show((2:Int)).toNat*1=2 from rfl,show((3:Int)).toNat*1=3 from rfl]
  refine⟨_,rfl,by decide,_,c (i:=0) a,_,rfl,by decide,_,c (i:=1) a,_,rfl,by decide,w (i:=0) a (by decide),lH (s':=IB d) a rfl fun h2 f G=>?_⟩
  refine⟨_,rfl,by decide,_,c (i:=1) f,_,rfl,by decide,_,c (i:=0) f,_,rfl,vi ⟨c (i:=0) f,by decide,w (i:=1) f (by decide),lH (s':=IX (IB d)) f rfl fun V v J=>?_⟩⟩
  refine⟨_,rfl,by decide,_,c (i:=0) v,_,rfl,vi ⟨by decide,w (i:=0) v (by decide),lH (s':=JB (IX (IB d))) v rfl fun h4 o M=>?_⟩⟩
  refine⟨_,rfl,by decide,_,c (i:=2) o,_,rfl,by decide,_,c (i:=3) o,_,rfl,by decide,w (i:=2) o (by decide),lH (s':=J0 (JB (IX (IB d)))) o rfl fun X k D=>?_⟩
  refine⟨_,rfl,by decide,_,c (i:=3) k,_,rfl,by decide,_,c (i:=2) k,_,rfl,vi ⟨c (i:=2) k,by decide,w (i:=3) k (by decide),lH (s':=KQ (J0 (JB (IX (IB d))))) k rfl fun h6 q E=>?_⟩⟩
  refine⟨_,rfl,by decide,_,c (i:=0) q,_,rfl,by decide,_,c (i:=3) q,_,rfl,by decide,w (i:=0) q (by decide),lH (s':=K9 (KQ (J0 (JB (IX (IB d)))))) q rfl fun Y m F=>?_⟩
  refine⟨_,rfl,by decide,_,c (i:=3) m,_,rfl,by decide,_,c (i:=0) m,_,rfl,vi ⟨c (i:=0) m,by decide,w (i:=3) m (by decide),lH (s':=Lx (K9 (KQ (J0 (JB (IX (IB d))))))) m rfl fun h8 p H=>?_⟩⟩
  refine⟨_,rfl,by decide,_,c (i:=2) p,_,rfl,by decide,_,c (i:=1) p,_,rfl,by decide,w (i:=2) p (by decide),lH (s':=LI (Lx (K9 (KQ (J0 (JB (IX (IB d)))))))) p rfl fun W e L=>?_⟩
  refine⟨_,rfl,by decide,_,c (i:=1) e,_,rfl,by decide,_,c (i:=2) e,_,rfl,vi ⟨c (i:=2) e,by decide,w (i:=1) e (by decide),lH (s':=s09 (LI (Lx (K9 (KQ (J0 (JB (IX (IB d))))))))) e rfl fun S j B=>?_⟩⟩
  refine⟨_,rfl,by decide,_,c (i:=2) j,_,rfl,vi ⟨by decide,w (i:=2) j (by decide),lH (s':=Du d) j rfl fun T C z=>?_⟩⟩
  rw[fY u (by omega)];refine U (i+1,Du d) _ _ ⟨rfl,u,C,N.tr (G.tr (J.tr (M.tr (D.tr (E.tr (F.tr (H.tr (L.tr (B.tr z))))))))),?_⟩ (by simp only;omega);simp only;rw[←y,show n-i=(n-(i+1))+1 by omega];rfl
 ·obtain rfl:i=n:=by omega
  rw[m3]at y;have y:d=kG i s:=y;rw[←y]at O;exact O _ a N
end Go.Proofs
namespace Go.Proofs
open Go.Lift
def Jp(s:ByteArray)(i:Nat):Int:=match s[i]? with|some b=>(b.toNat:Int)|none=>0
def Lw(b:Int)(n:Int):Int:=IntKind.wrap .u64 ((IntKind.wrap .u64 b)*2^(min n.toNat (IntKind.bits .u64)))
def wj(s:ByteArray):Nat→Int→Int
 |0,t=>t
 |k+1,t=>wj s k (Hr t (if k=0 then IntKind.wrap .u64 (Jp s 0)else Lw (Jp s k) ((8*k:Nat):Int)))
def wc(s:ByteArray):Int:=wj s s.size 0
theorem oz{s:ByteArray}{i:Nat}(h:i<s.size):∃b,s[i]? =some b∧Jp s i=(b.toNat:Int):=⟨s[i],getElem?_pos s i h,by simp[Jp,getElem?_pos s i h]⟩
theorem ER{s:ByteArray}(H:s.size≤8){h:ae}{K:Int→ae→Prop}(g:K (wc s) h):HC PG qg [.string s] [.c (.int .u64)] K h:=by
 refine EB s ?_;unfold yV;refine Join.intro (fun t f=>f=h∧1≤s.size∧wj s 1 t=wj s s.size 0) (fun I k=>?_) ?_
 ·refine Join.intro (fun t f=>f=h∧2≤s.size∧wj s 2 t=wj s s.size 0) (fun M q=>?_) ?_
  ·refine Join.intro (fun t f=>f=h∧3≤s.size∧wj s 3 t=wj s s.size 0) (fun D m=>?_) ?_
   ·refine Join.intro (fun t f=>f=h∧4≤s.size∧wj s 4 t=wj s s.size 0) (fun R4 o=>?_) ?_
    ·refine Join.intro (fun t f=>f=h∧5≤s.size∧wj s 5 t=wj s s.size 0) (fun N n=>?_) ?_
     ·refine Join.intro (fun t f=>f=h∧6≤s.size∧wj s 6 t=wj s s.size 0) (fun F p=>?_) ?_
      ·refine Join.intro (fun t f=>f=h∧7≤s.size∧wj s 7 t=wj s s.size 0) (fun E j=>?_) ?_
       ·refine CondP.intro (fun e=>?_) fun B=>?_
        ·have e:s.size=8:=by have:=of_decide_eq_true (by simpa using e:decide ((s.size:Int)=8)=true);omega
         obtain⟨b,a,hv⟩:=oz (s:=s) (i:=7) (by omega);refine⟨b,by decide,a,by decide,j _ _ ⟨rfl,by omega,?_⟩⟩
         rw[e,←hv];rfl
        refine CondP.intro (fun e=>?_) fun v=>?_
        ·have e:s.size=7:=by have:=of_decide_eq_true (by simpa using e:decide ((s.size:Int)=7)=true);omega
         exact j _ _ ⟨rfl,by omega,by rw[e]⟩
        refine CondP.intro (fun e=>?_) fun y=>?_
        ·have e:s.size=6:=by have:=of_decide_eq_true (by simpa using e:decide ((s.size:Int)=6)=true);omega
         exact p _ _ ⟨rfl,by omega,by rw[e]⟩
        refine CondP.intro (fun e=>?_) fun x=>?_
        ·have e:s.size=5:=by have:=of_decide_eq_true (by simpa using e:decide ((s.size:Int)=5)=true);omega
         exact n _ _ ⟨rfl,by omega,by rw[e]⟩
        refine CondP.intro (fun e=>?_) fun A=>?_
        ·have e:s.size=4:=by have:=of_decide_eq_true (by simpa using e:decide ((s.size:Int)=4)=true);omega
         exact o _ _ ⟨rfl,by omega,by rw[e]⟩
        refine CondP.intro (fun e=>?_) fun z=>?_
        ·have e:s.size=3:=by have:=of_decide_eq_true (by simpa using e:decide ((s.size:Int)=3)=true);omega
         exact m _ _ ⟨rfl,by omega,by rw[e]⟩
        refine CondP.intro (fun e=>?_) fun w=>?_
        ·have e:s.size=2:=by have:=of_decide_eq_true (by simpa using e:decide ((s.size:Int)=2)=true);omega
         exact q _ _ ⟨rfl,by omega,by rw[e]⟩
        refine CondP.intro (fun e=>?_) fun u=>?_
        ·have e:s.size=1:=by have:=of_decide_eq_true (by simpa using e:decide ((s.size:Int)=1)=true);omega
         exact k _ _ ⟨rfl,by omega,by rw[e]⟩
        have e:s.size=0:=by
         have Q:¬(s.size:Int)=1:=by simpa using u
         have O:¬(s.size:Int)=2:=by simpa using w
         have P:¬(s.size:Int)=3:=by simpa using z
         have q4:¬(s.size:Int)=4:=by simpa using A
         have G:¬(s.size:Int)=5:=by simpa using x
         have L:¬(s.size:Int)=6:=by simpa using y
         have C:¬(s.size:Int)=7:=by simpa using v
         have J:¬(s.size:Int)=8:=by simpa using B
         omega
        unfold wc at g;rw[e]at g;exact g
       ·rintro t _ ⟨rfl,c,d⟩
        obtain⟨b,a,hv⟩:=oz (s:=s) (i:=6) (by omega);refine⟨b,by decide,a,by decide,p _ _ ⟨rfl,by omega,?_⟩⟩
        rw[←d,←hv];rfl
      ·rintro t _ ⟨rfl,c,d⟩
       obtain⟨b,a,hv⟩:=oz (s:=s) (i:=5) (by omega);refine⟨b,by decide,a,by decide,n _ _ ⟨rfl,by omega,?_⟩⟩
       rw[←d,←hv];rfl
     ·rintro t _ ⟨rfl,c,d⟩
      obtain⟨b,a,hv⟩:=oz (s:=s) (i:=4) (by omega);refine⟨b,by decide,a,by decide,o _ _ ⟨rfl,by omega,?_⟩⟩
      rw[←d,←hv];rfl
    ·rintro t _ ⟨rfl,c,d⟩
     obtain⟨b,a,hv⟩:=oz (s:=s) (i:=3) (by omega);refine⟨b,by decide,a,by decide,m _ _ ⟨rfl,by omega,?_⟩⟩
     rw[←d,←hv];rfl
   ·rintro t _ ⟨rfl,c,d⟩
    obtain⟨b,a,hv⟩:=oz (s:=s) (i:=2) (by omega);refine⟨b,by decide,a,by decide,q _ _ ⟨rfl,by omega,?_⟩⟩
    rw[←d,←hv];rfl
  ·rintro t _ ⟨rfl,c,d⟩
   obtain⟨b,a,hv⟩:=oz (s:=s) (i:=1) (by omega);refine⟨b,by decide,a,by decide,k _ _ ⟨rfl,by omega,?_⟩⟩
   rw[←d,←hv];rfl
 ·rintro t _ ⟨rfl,c,d⟩
  obtain⟨b,a,hv⟩:=oz (s:=s) (i:=0) (by omega);refine⟨b,by decide,a,?_⟩
  unfold wc at g;rw[←d]at g;rw[←hv];exact g
end Go.Proofs
namespace Go.Proofs
open Go.Lift
def xO(m:Int)(s:Q4):Q4:=
 let r:=kG 2 (s.1,s.2.1,s.2.2.1,ey s.2.2.2 m)
 (ey r.1 m,r.2)
theorem EZ{m:Int}{h:ae}{b:Nat}{t:TypeId}{s:Q4}(d:h[b]? =some (.cells (q4 s) t (0,0))) {K:Unit→ae→Prop}
  (j:∀h',h'[b]? =some (.cells (q4 (xO m s)) t (0,0))→Upd (· =b) h h'→K () h'):HC PG je [.pointer (some ⟨b,0,none⟩),.int .u64 m] [] K h:=by
 refine vO _ _ ?_;unfold pJ cG f6 cZ l9;have c:∀{h:ae} {s:Q4} {i:Nat},h[b]? =some (.cells (q4 s) t (0,0))→aQ h ⟨b,0+i,none⟩=(q4 s)[i]?:=fun d=>by rw[aC];exact aV d
 have w:∀{h:ae} {s:Q4} {i:Nat},h[b]? =some (.cells (q4 s) t (0,0))→i<4→Wr h ⟨b,0+i,none⟩:=fun d hi=>by rw[aC];exact gL d hi
 simp only[show((0:Int)).toNat*1=0 from rfl,show((3:Int)).toNat*1=3 from rfl]
 refine⟨_,rfl,by decide,_,c (i:=3) d,_,rfl,by decide,w (i:=3) d (by decide),lH (s':=(s.1,s.2.1,s.2.2.1,ey s.2.2.2 m)) d rfl fun v g e=>?_⟩
 refine zN (n:=2) (by omega) g fun u a k=>?_
 have p:xO m s=(ey (kG 2 (s.1,s.2.1,s.2.2.1,ey s.2.2.2 m)).1 m,(kG 2 (s.1,s.2.1,s.2.2.1,ey s.2.2.2 m)).2):=by unfold xO;rfl
 rw[p]at j;generalize kG 2 (s.1,s.2.1,s.2.2.1,ey s.2.2.2 m)=r at a j;refine⟨_,rfl,by decide,_,c (i:=0) a,_,rfl,by decide,w (i:=0) a (by decide),lH (s':=(ey r.1 m,r.2)) a rfl fun q f o=>?_⟩
 exact j _ f (e.tr (k.tr o))
def xS:Nat→ByteArray→Q4→ByteArray×Q4
 |0,s,q=>(s,q)
 |n+1,s,q=>if 8≤s.size then xS n (s.extract 8 s.size) (xO (wc (s.extract 0 8)) q)else(s,q)
def Ln(r:Q4):Int:=ey (ey (ey r.1 r.2.1) r.2.2.1) r.2.2.2
def Lm(q:Q4):Int:=Ln (kG 4 (q.1,q.2.1,ey q.2.2.1 255,q.2.2.2))
def LG(n:Nat)(g:ByteArray×Q4):Int:=Lm (xO (Hr (wc g.1) (Lw (n:Int) 56)) g.2)
def IU(k0 k1:Int)(s:ByteArray):Int:=
 LG s.size (xS s.size s (ey k0 8317987319222330741,ey k1 7237128888997146477,ey k0 7816392313619706465,ey k1 8387220255154660723))
theorem Jk{a:ae}{b:Nat}{t:TypeId}{r:Q4}(f:a[b]? =some (.cells (q4 r) t (0,0))) {K:Int→Prop} (g:K (Ln r)):
  (((0:Int)≤(0:Int)∧(0:Int)<((4:Nat):Int))∧
   ∃v30:Int,aQ a (adr ⟨b,0,none⟩ ((0:Int).toNat*1))=some (.int .u64 v30)∧
   (((0:Int)≤(1:Int)∧(1:Int)<((4:Nat):Int))∧
    ∃v31:Int,aQ a (adr ⟨b,0,none⟩ ((1:Int).toNat*1))=some (.int .u64 v31)∧
    Bd (IntKind.wrap .u64 (ah (IntKind.bits .u64) v30^^^ah (IntKind.bits .u64) v31).toNat:Int) (fun n32=>
     (((0:Int)≤(2:Int)∧(2:Int)<((4:Nat):Int))∧
      ∃v33:Int,aQ a (adr ⟨b,0,none⟩ ((2:Int).toNat*1))=some (.int .u64 v33)∧
      Bd (IntKind.wrap .u64 (ah (IntKind.bits .u64) n32^^^ah (IntKind.bits .u64) v33).toNat:Int) (fun e=>
       (((0:Int)≤(3:Int)∧(3:Int)<((4:Nat):Int))∧
        ∃v35:Int,aQ a (adr ⟨b,0,none⟩ ((3:Int).toNat*1))=some (.int .u64 v35)∧
        Bd (IntKind.wrap .u64 (ah (IntKind.bits .u64) e^^^ah (IntKind.bits .u64) v35).toNat:Int) (fun d=>
         K d))))))):=by
 have c:∀{i:Nat},aQ a ⟨b,0+i,none⟩=(q4 r)[i]?:=by intro i;rw[aC];exact aV f
 exact⟨by decide,_,c (i:=0),by decide,_,c (i:=1),by decide,_,c (i:=2),by decide,_,c (i:=3),g⟩
theorem Jj{a:ae}{b:Nat}{t:TypeId}{q:Q4}(g:a[b]? =some (.cells (q4 q) t (0,0))) {K:Unit→ae→Prop}
  (p:∀h',h'[b]? =some (.cells (q4 (kG 4 (q.1,q.2.1,ey q.2.2.1 255,q.2.2.2))) t (0,0))→Upd (· =b) a h'→K () h'):
  (((0:Int)≤(2:Int)∧(2:Int)<((4:Nat):Int))∧
   ∃v25:Int,aQ a (adr ⟨b,0,none⟩ ((2:Int).toNat*1))=some (.int .u64 v25)∧
   Bd (IntKind.wrap .u64 (ah (IntKind.bits .u64) v25^^^ah (IntKind.bits .u64) 255).toNat:Int) (fun j=>
    (((0:Int)≤(2:Int)∧(2:Int)<((4:Nat):Int))∧
     (Wr a (adr ⟨b,0,none⟩ ((2:Int).toNat*1))∧
      At (hset a (adr ⟨b,0,none⟩ ((2:Int).toNat*1)) (.int .u64 j)) (fun d=>
       HC PG fM [.pointer (some ⟨b,0,none⟩),.int .i64 4] [] K d))))):=by
 have c:∀{i:Nat},aQ a ⟨b,0+i,none⟩=(q4 q)[i]?:=by intro i;rw[aC];exact aV g
 refine⟨by decide,_,c (i:=2),by decide,by rw[show((2:Int)).toNat*1=2 from rfl,bC];exact gL g (by simp[q4]),?_⟩
 refine lH (s':=(q.1,q.2.1,ey q.2.2.1 255,q.2.2.2)) g rfl fun s e k=>?_
 exact zN (n:=4) (by omega) e fun o f m=>p o f (k.tr m)
theorem bG{h:ae}{k:ae→Prop}(a:k h):At h k:=a
theorem JX{k0 k1:Int}{s:ByteArray}{h:ae}{K:Int→ae→Prop}(C:∀p,Upd No h p→K (IU k0 k1 s) p):HC PG vx [.agg #[.int .u64 k0,.int .u64 k1],.string s] [.c (.int .u64)] K h:=by
 refine GC (k0,k1) s ?_;unfold Av cG f6 ag nv cZ l9 La KW K2 II;have u:=Upd.hnew No h [.int .u64 k0,.int .u64 k1] hJ;have b1:=ci h [.int .u64 k0,.int .u64 k1] hJ;have E:=jd h [.int .u64 k0,.int .u64 k1] hJ;refine bG ?_;simp only[eZ h];generalize hnew h [.int .u64 k0,.int .u64 k1] hJ=h1 at u b1 E;refine⟨k0,by rw[bC,aV b1];rfl,k1,by rw[bC,aV b1];rfl,k0,by rw[bC,aV b1];rfl,k1,by rw[bC,aV b1];rfl,?_⟩
 have J:=Upd.hnew No h1 [.int .u64 0,.int .u64 0,.int .u64 0,.int .u64 0] ga;have b2:=ci h1 [.int .u64 0,.int .u64 0,.int .u64 0,.int .u64 0] ga;simp only[eZ h1];simp only[Bd];refine bG ?_;refine⟨.inr ⟨_,rfl,fun j H=>by rw[bC];exact gL b2 (by simp at H⊢;omega)⟩,?_⟩
 refine bG ?_;rw[f7 _ _ 0 0 _ b2 (by simp)];have b3:=iY (o:=.cells (q4 (ey k0 8317987319222330741,ey k1 7237128888997146477,ey k0 7816392313619706465,ey k1 8387220255154660723)) ga (0,0)) b2;have M:Upd No h _:=u.tr (J.trans (M':=(· =h1.size)) (Upd.set (hnew h1 [.int .u64 0,.int .u64 0,.int .u64 0,.int .u64 0] ga) (.cells (q4 (ey k0 8317987319222330741,ey k1 7237128888997146477,ey k0 7816392313619706465,ey k1 8387220255154660723)) ga (0,0)) rfl) fun b a=>.inr (Nat.le_of_eq a.symm))
 refine LoopP.ghost (fun(g:Nat×Q4) (d:ByteArray) p=>d.size≤g.1∧p[h1.size]? =some (.cells (q4 g.2) ga (0,0))∧Upd No h p∧xS g.1 d g.2=xS s.size s (ey k0 8317987319222330741,ey k1 7237128888997146477,ey k0 7816392313619706465,ey k1 8387220255154660723)) (fun g=>g.1) (s.size,_)
  ⟨aw _,b3,M,rfl⟩ ?_
 rintro I ⟨n,q⟩ d p ⟨F,a,B,v⟩ G;simp only at F a v;have f:∀b,b=h1.size→No b∨h.size≤b:=fun b a=>.inr (by omega)
 refine bf (fun t=>?_) fun y=>?_
 ·have t:8≤d.size:=by omega
  cases n with
  |zero=>omega
  |succ n=>
   refine⟨by omega,ER (by rw[li];show min 8 _-0≤8;omega) (EZ a fun L e k=>⟨by omega,?_⟩)⟩
   have N:((8:Int)).toNat=8:=rfl;rw[N]at e⊢;refine G (n,xO (wc (d.extract 0 8)) q) _ _ ⟨by simp only[li];omega,e,B.trans k f,?_⟩ (by simp only;omega);rw[←v];simp only[xS,if_pos t]
 ·have y:d.size<8:=by omega
  have v:(d,q)=xS s.size s (ey k0 8317987319222330741,ey k1 7237128888997146477,ey k0 7816392313619706465,ey k1 8387220255154660723):=by
   rw[←v];cases n with
   |zero=>rfl
   |succ n=>simp only[xS,if_neg (show ¬8≤d.size by omega)]
  have c:∀{h:ae} {s:Q4} {i:Nat},h[h1.size]? =some (.cells (q4 s) ga (0,0))→aQ h ⟨h1.size,0+i,none⟩=(q4 s)[i]?:=fun a=>by rw[aC];exact aV a
  have w:∀{h:ae} {s:Q4} {i:Nat},h[h1.size]? =some (.cells (q4 s) ga (0,0))→i<4→Wr h ⟨h1.size,0+i,none⟩:=fun a hi=>by rw[aC];exact gL a hi
  have x:IU k0 k1 s=Lm (xO (Hr (wc d) (Lw (s.size:Int) 56)) q):=by unfold IU;rw[←v];rfl
  rw[x]at C;refine ER (by omega) ⟨by decide,EZ (m:=Hr (wc d) (Lw (s.size:Int) 56)) a fun L e k=>?_⟩
  refine Jj e fun D z A=>Jk (K:=fun n=>K n D) z ?_
  exact C D ((B.trans k f).trans A f)
structure Hs where
 k0:Int
 k1:Int
 mask:Int
def lx(h:Hs)(s:ByteArray):Int:=Ir (IU h.k0 h.k1 s) h.mask
theorem xx{x:Hs}{s:ByteArray}{h:ae}{K:Int→ae→Prop}(c:∀h',Upd No h h'→K (lx x s) h'):HC PG fj [.agg #[.int .u64 x.k0,.int .u64 x.k1,.int .u64 x.mask],.string s] [.c (.int .u64)] K h:=by
 refine ux (x.k0,x.k1,x.mask) s ?_;unfold oF ag dQ BL K5;have a:=Upd.hnew No h [.int .u64 x.k0,.int .u64 x.k1,.int .u64 x.mask] cB;have b1:=ci h [.int .u64 x.k0,.int .u64 x.k1,.int .u64 x.mask] cB;simp only[At,eZ h];generalize hnew h [.int .u64 x.k0,.int .u64 x.k1,.int .u64 x.mask] cB=h1 at a b1;refine⟨x.k0,by rw[bC,bC,aV b1];rfl,x.k1,by rw[bC,bC,aV b1];rfl,x.mask,by rw[bC,aV b1];rfl,?_⟩
 refine JX fun d b=>⟨by rw[bC,aV (b.get0 b1)];rfl,c _ (a.tr b)⟩
theorem CE(x:Hs)(s:ByteArray):0≤lx x s∧lx x s<18446744073709551616:=Dg _
end Go.Proofs
namespace Go.Proofs
open Go Go.Lift
abbrev gz(x:ByteArray×ByteArray):List Value:= [.string x.1,.string x.2]
theorem iI(x:ByteArray×ByteArray):(gz x).length=2∧0<2:=⟨rfl,by omega⟩
theorem rE:∀xs:List (ByteArray×ByteArray),bE (xs.flatMap gz)=true
 | []=>rfl
 |x::xs=>by rw[aJ];exact jb rfl (rE xs)
theorem A0{h:ae}{a b o la c lb cb:Nat}{f cw:Array Value}{d tb:TypeId}(hv:h[a]? =some (.cells f d (0,0))) (j:h[b]? =some (.cells cw tb (0,0))) (g:a≠b) (k:cw.size≠0) {K:Bool→ae→Prop} (i:K false h):
  HC PG fB [.slice (some ⟨a,0,none⟩) la c,.slice (some ⟨b,o,none⟩) lb cb] [.c .bool] K h:=by
 refine⟨fun w e=>.inr ⟨.bool false,w,?_,Tame.refl w,false,rfl,e▸i⟩⟩
 subst e;rw[m0];have:=Lib.run_overlaps_apart (P:=PG) w cH pX al (by kernel_rfl) (bo PG al) (mg (by kernel_rfl)) ⟨a,0,none⟩ ⟨b,o,none⟩ la c lb cb g d tb f.size cw.size
  (by simp[World.shape?,hv]) (by simp[World.shape?,j]) k (by simp[World.frozen?,hv]) (by simp[World.frozen?,hv])
 rw[show([Value.slice (some ⟨a,0,none⟩) la c,Value.slice (some ⟨b,o,none⟩) lb cb]:List Value).toArray= #[.slice (some ⟨a,0,none⟩) la c,.slice (some ⟨b,o,none⟩) lb cb]from rfl,this]
 rfl
set_option maxRecDepth 4000 in
theorem D4{M:Nat→Prop}{h:ae}{s:SliceV}{xs:List (ByteArray×ByteArray)}(T:OwnS gz 2 al M h s xs){k:Nat}(hkl:k≤xs.length)(hn:(xs.length+1)*32≤140737488355328){x:ByteArray×ByteArray}{m:Nat}(hv:h[m]? =some (.cells (gz x).toArray al (0,0)))
  (hvM:¬M m) (hM:∀b,h.size≤b→M b) {K:SliceV→ae→Prop} (hK:∀s' P,OwnS gz 2 al M P s' (xs.take k++x::xs.drop k)→Upd M h P→K s' P):
  HC PG bS [.slice s.a s.len s.cap,.int .i64 k,.slice (some ⟨m,0,none⟩) 1 1] [.c .slice] K h:=by
 refine jp s k ⟨some ⟨m,0,none⟩,1,1⟩ ?_;unfold fl qt;have p:=T.len;have hcap:=T.cap;have I:SRow h (some ⟨m,0,none⟩) (1*2) (gz x):=⟨rfl,.inr ⟨_,rfl,nX hv fun i v hi=>by simpa using hi⟩⟩
 refine⟨by omega,ak.2 ?_⟩;refine CondP.intro (fun e=>?_) fun e=>?_
 ·have e:k=xs.length:=by have:=of_decide_eq_true (by simpa using e:decide ((k:Int)=(s.len:Int))=true);omega
  subst e;refine⟨_,I,AppP.own (ys:= [x]) T rfl (by simp) rfl rfl (by omega) (by simp;omega) (hM _ (aw _)) fun s' P ho hu=>hK s' P ?_ hu⟩
  rw[cP,List.drop_length];exact ho
 have hlt:k<xs.length:=by
  rcases bP k xs.length with h|h
  ·exact h
  ·have:((k:Int)==(s.len:Int))=true:=by rw[beq_iff_eq];omega
   rw[this]at e;cases e
 rcases T.blk with h0|⟨b,d,ha,o,hc,hr⟩
 ·omega
 have j:((xs.take k).flatMap gz).length=k*2:=by rw[gQ iI,aK,aW hkl]
 have t:((xs.drop k).flatMap gz).length=(xs.length-k)*2:=by rw[gQ iI,aH]
 have S:m≠b:=fun e=>hvM (e▸o)
 rw[te (f:=gz) xs k]at hc;have a:(xs.take k++x::xs.drop k).flatMap gz=(xs.take k).flatMap gz++(gz x++(xs.drop k).flatMap gz):=by rw[be,aJ]
 have g:=rE (xs.drop k);have c:(gz x).length=2:=rfl;have C:bE (gz x)=true:=rfl;generalize hAe:(xs.take k).flatMap gz=A at j hc a;generalize hBe:(xs.drop k).flatMap gz=B at t hc a g;generalize gz x=X at I c hv a C;rw[ha];have w1:IntKind.wrap .i64 ((xs.length:Int)+((1:Nat):Int))=((xs.length+1:Nat):Int):=by rw[nT (by omega)];omega
 have w2:IntKind.wrap .i64 ((k:Int)+((1:Nat):Int))=((k+1:Nat):Int):=by rw[nT (by omega)];omega
 have w3:IntKind.wrap .i64 (((xs.length+1:Nat):Int)-(k:Int))=((xs.length+1-k:Nat):Int):=by rw[nT (by omega)];omega
 simp only[w1,w2,w3,aN,p];refine bf (fun hgt=>?_) fun hle=>?_
 ·
  have O:s.cap=xs.length:=by omega
  refine Join.plain ⟨by omega,⟨by omega,by omega,by omega,by omega⟩,fun hin=>?_,fun F=>?_⟩
  ·omega
  ·refine⟨A,_,?_,rfl,by omega,Go.growslice_fits F (by omega),fun D w=>?_⟩
   ·rw[sub_zero]
    exact ib hc (by rw[j];omega) (by simp only[cF,dA];rw[ao,←j,dF (aw _),cP])
   ·simp only[aN]at w⊢
    have U:=Upd.hnew No h (A++cA (xs.length+1-k) [.string (⟨#[]⟩:ByteArray),.string (⟨#[]⟩:ByteArray)]++cA (D-(k-0+(xs.length+1-k))) [.string (⟨#[]⟩:ByteArray),.string (⟨#[]⟩:ByteArray)]) al;have bn:=ci h (A++cA (xs.length+1-k) [.string (⟨#[]⟩:ByteArray),.string (⟨#[]⟩:ByteArray)]++cA (D-(k-0+(xs.length+1-k))) [.string (⟨#[]⟩:ByteArray),.string (⟨#[]⟩:ByteArray)]) al
    have y:(cA (xs.length+1-k) [.string (⟨#[]⟩:ByteArray),.string (⟨#[]⟩:ByteArray)]).length=(xs.length+1-k)*2:=iA _ _;have W:(cA (D-(k-0+(xs.length+1-k))) [.string (⟨#[]⟩:ByteArray),.string (⟨#[]⟩:ByteArray)]).length=(D-(k-0+(xs.length+1-k)))*2:=iA _ _;have u:k-0+(xs.length+1-k)=xs.length+1:=by omega
    rw[eZ];have hsz:h.size≠m:=fun e=>by have:=aG hv;omega
    have G:h.size≠b:=fun e=>by have:=aG hc;omega
    have J:=U.get0 hc;have L:=U.get0 hv;generalize hnew h _ al=h9 at U bn J L;rw[u]at w W⊢;have m1:cK 1 (xs.length+1-k)=1:=aW (by omega);have V:cK (xs.length-k) (xs.length+1-(k+1))=xs.length-k:=aW (by omega);rw[m1];have xr9:SRow h9 (some ⟨m,0,none⟩) (1*2) X:=ib L (by rw[c]) (by rw[cF,bc];rw[c];omega)
    refine⟨by omega,?_⟩;rw[gm (by omega)];refine g4 xr9 C bn (by simp only[af,j,y];omega) fun h11 Q n=>⟨by omega,?_⟩
    simp only[Bd];rw[gm (by omega),gm (by omega),V];refine⟨by omega,?_⟩;have z:=n.get J (fun e=>G e.symm)
    have br:SRow h11 (some ⟨b,0+k*2,none⟩) ((xs.length-k)*2) B:=ib z t (by
     rw[aC,ao,←j,fS,←t,fP])
    refine g4 br g Q ?_ fun h16 E N=>?_
    ·simp only[af,aK,aH,j,y,c];omega
    ·refine hK _ _ ⟨by simp;omega,iI,w,.inr ⟨h.size,cA (D-(xs.length+1)) [.string (⟨#[]⟩:ByteArray),.string (⟨#[]⟩:ByteArray)],rfl,hM _ (aw _),?_,by rw[iA];rfl⟩⟩ ((U.wide.trans (M':=(· =h.size)) n fun b o=>.inl (o▸hM _ (aw _))).trans (M':=(· =h.size)) N fun b o=>.inl (o▸hM _ (aw _)))
     rw[E,a];have:=Bb (A:=A) (X:=X) (B:=B) (Z1:=cA (xs.length+1-k) [.string (⟨#[]⟩:ByteArray),.string (⟨#[]⟩:ByteArray)]) (Z2:=cA (D-(xs.length+1)) [.string (⟨#[]⟩:ByteArray),.string (⟨#[]⟩:ByteArray)]) (r:=(xs.length-k)*2) j c (by rw[y,←eD];congr 1;omega);rw[u,←this];simp only[aC,eD,mw]
 ·have O:xs.length+1≤s.cap:=by omega
  refine⟨by omega,?_⟩;simp only[Bd,dA];rw[sub_zero,gm (show s.cap≠k+1 by omega),gm (show s.cap≠k by omega)]
  refine⟨by omega,?_⟩;have Z:2≤d.length:=by rw[hr];exact lf _ (by omega)
  refine A0 hv hc S (by rw[co,af];omega) ?_;refine aA.2 ⟨by omega,by omega,?_⟩
  have m1:cK 1 (xs.length+1-k)=1:=aW (by omega);have V:cK (xs.length+1-k) (xs.length+1-(k+1))=xs.length-k:=by
   rw[show xs.length+1-(k+1)=xs.length-k by omega];exact lU (by omega)
  rw[V];have br:SRow h (some ⟨b,0+k*2,none⟩) ((xs.length-k)*2) B:=ib hc t (by
   rw[aC,ao,←j,fS,←t,fP])
  refine g4 br g hc (by simp only[af,j,t];omega) fun h1 Y H=>⟨by omega,?_⟩
  rw[m1];have xr1:SRow h1 (some ⟨m,0,none⟩) (1*2) X:=ib (H.get hv S) (by rw[c]) (by rw[cF,bc];rw[c];omega);refine g4 xr1 C Y (by simp only[af,aK,aH,j,t];omega) fun h2 hb2 hu2=>?_
  refine hK _ _ ⟨by simp;omega,iI,O,.inr ⟨b,d.drop 2,rfl,o,?_,?_⟩⟩ ((H.mono fun _ e=>.inl (e▸o)).tr (hu2.mono fun _ e=>.inl (e▸o)))
  ·rw[hb2,a]
   have:=D6 (A:=A) (X:=X) (B:=B) (R:=d) (q:=2) (r:=(xs.length-k)*2) j t Z;rw[←this];simp only[aC,eD,mw]
  ·rw[aH,hr]
   simp only;rw[p];omega
abbrev my(x:Option Addr):List Value:= [.pointer x]
theorem ng(x:Option Addr):(my x).length=1∧0<1:=⟨rfl,by omega⟩
theorem xn:∀xs:List (Option Addr),bE (xs.flatMap my)=true
 | []=>rfl
 |x::xs=>by rw[aJ];exact jb rfl (xn xs)
theorem A5{h:ae}{a b o la c lb cb:Nat}{f cw:Array Value}{d tb:TypeId}(hv:h[a]? =some (.cells f d (0,0))) (j:h[b]? =some (.cells cw tb (0,0))) (g:a≠b) (k:cw.size≠0) {K:Bool→ae→Prop} (i:K false h):
  HC PG fc [.slice (some ⟨a,0,none⟩) la c,.slice (some ⟨b,o,none⟩) lb cb] [.c .bool] K h:=by
 refine⟨fun w e=>.inr ⟨.bool false,w,?_,Tame.refl w,false,rfl,e▸i⟩⟩
 subst e;rw[mp];have:=Lib.run_overlaps_apart (P:=PG) w mA pX aY (by kernel_rfl) (bo PG aY) (mg (by kernel_rfl)) ⟨a,0,none⟩ ⟨b,o,none⟩ la c lb cb g d tb f.size cw.size
  (by simp[World.shape?,hv]) (by simp[World.shape?,j]) k (by simp[World.frozen?,hv]) (by simp[World.frozen?,hv])
 rw[show([Value.slice (some ⟨a,0,none⟩) la c,Value.slice (some ⟨b,o,none⟩) lb cb]:List Value).toArray= #[.slice (some ⟨a,0,none⟩) la c,.slice (some ⟨b,o,none⟩) lb cb]from rfl,this]
 rfl
set_option maxRecDepth 4000 in
theorem D5{M:Nat→Prop}{h:ae}{s:SliceV}{xs:List (Option Addr)}(T:OwnS my 1 aY M h s xs){k:Nat}(hkl:k≤xs.length)(hn:(xs.length+1)*8≤140737488355328){x:Option Addr}{m:Nat}(hv:h[m]? =some (.cells (my x).toArray aY (0,0)))
  (hvM:¬M m) (hM:∀b,h.size≤b→M b) {K:SliceV→ae→Prop} (hK:∀s' P,OwnS my 1 aY M P s' (xs.take k++x::xs.drop k)→Upd M h P→K s' P):
  HC PG bM [.slice s.a s.len s.cap,.int .i64 k,.slice (some ⟨m,0,none⟩) 1 1] [.c .slice] K h:=by
 refine g5 s k ⟨some ⟨m,0,none⟩,1,1⟩ ?_;unfold eA;have p:=T.len;have hcap:=T.cap;have I:SRow h (some ⟨m,0,none⟩) (1*1) (my x):=⟨rfl,.inr ⟨_,rfl,nX hv fun i v hi=>by simpa using hi⟩⟩
 refine⟨by omega,ak.2 ?_⟩;refine CondP.intro (fun e=>?_) fun e=>?_
 ·have e:k=xs.length:=by have:=of_decide_eq_true (by simpa using e:decide ((k:Int)=(s.len:Int))=true);omega
  subst e;refine⟨_,I,AppP.own (ys:= [x]) T rfl (by simp) rfl rfl (by omega) (by simp;omega) (hM _ (aw _)) fun s' P ho hu=>hK s' P ?_ hu⟩
  rw[cP,List.drop_length];exact ho
 have hlt:k<xs.length:=by
  rcases bP k xs.length with h|h
  ·exact h
  ·have:((k:Int)==(s.len:Int))=true:=by rw[beq_iff_eq];omega
   rw[this]at e;cases e
 rcases T.blk with h0|⟨b,d,ha,o,hc,hr⟩
 ·omega
 have j:((xs.take k).flatMap my).length=k*1:=by rw[gQ ng,aK,aW hkl]
 have t:((xs.drop k).flatMap my).length=(xs.length-k)*1:=by rw[gQ ng,aH]
 have S:m≠b:=fun e=>hvM (e▸o)
 rw[te (f:=my) xs k]at hc;have a:(xs.take k++x::xs.drop k).flatMap my=(xs.take k).flatMap my++(my x++(xs.drop k).flatMap my):=by rw[be,aJ]
 have g:=xn (xs.drop k);have c:(my x).length=1:=rfl;have C:bE (my x)=true:=rfl;generalize hAe:(xs.take k).flatMap my=A at j hc a;generalize hBe:(xs.drop k).flatMap my=B at t hc a g;generalize my x=X at I c hv a C;rw[ha];have w1:IntKind.wrap .i64 ((xs.length:Int)+((1:Nat):Int))=((xs.length+1:Nat):Int):=by rw[nT (by omega)];omega
 have w2:IntKind.wrap .i64 ((k:Int)+((1:Nat):Int))=((k+1:Nat):Int):=by rw[nT (by omega)];omega
 have w3:IntKind.wrap .i64 (((xs.length+1:Nat):Int)-(k:Int))=((xs.length+1-k:Nat):Int):=by rw[nT (by omega)];omega
 simp only[w1,w2,w3,aN,p];refine bf (fun hgt=>?_) fun hle=>?_
 ·
  have O:s.cap=xs.length:=by omega
  refine Join.plain ⟨by omega,⟨by omega,by omega,by omega,by omega⟩,fun hin=>?_,fun F=>?_⟩
  ·omega
  ·refine⟨A,_,?_,rfl,by omega,Go.growslice_fits F (by omega),fun D w=>?_⟩
   ·rw[sub_zero]
    exact ib hc (by rw[j];omega) (by simp only[cF,dA];rw[ao,←j,dF (aw _),cP])
   ·simp only[aN]at w⊢
    have U:=Upd.hnew No h (A++cA (xs.length+1-k) [.pointer none]++cA (D-(k-0+(xs.length+1-k))) [.pointer none]) aY;have bn:=ci h (A++cA (xs.length+1-k) [.pointer none]++cA (D-(k-0+(xs.length+1-k))) [.pointer none]) aY;have y:(cA (xs.length+1-k) [.pointer none]).length=(xs.length+1-k)*1:=iA _ _;have W:(cA (D-(k-0+(xs.length+1-k))) [.pointer none]).length=(D-(k-0+(xs.length+1-k)))*1:=iA _ _
    have u:k-0+(xs.length+1-k)=xs.length+1:=by omega
    rw[eZ];have hsz:h.size≠m:=fun e=>by have:=aG hv;omega
    have G:h.size≠b:=fun e=>by have:=aG hc;omega
    have J:=U.get0 hc;have L:=U.get0 hv;generalize hnew h _ aY=h9 at U bn J L;rw[u]at w W⊢;have m1:cK 1 (xs.length+1-k)=1:=aW (by omega);have V:cK (xs.length-k) (xs.length+1-(k+1))=xs.length-k:=aW (by omega);rw[m1];have xr9:SRow h9 (some ⟨m,0,none⟩) (1*1) X:=ib L (by rw[c]) (by rw[cF,bc];rw[c];omega)
    refine⟨by omega,?_⟩;rw[gm (by omega)];refine g4 xr9 C bn (by simp only[af,j,y];omega) fun h11 Q n=>⟨by omega,?_⟩
    simp only[Bd];rw[gm (by omega),gm (by omega),V];refine⟨by omega,?_⟩;have z:=n.get J (fun e=>G e.symm)
    have br:SRow h11 (some ⟨b,0+k*1,none⟩) ((xs.length-k)*1) B:=ib z t (by
     rw[aC,ao,←j,fS,←t,fP])
    refine g4 br g Q ?_ fun h16 E N=>?_
    ·simp only[af,aK,aH,j,y,c];omega
    ·refine hK _ _ ⟨by simp;omega,ng,w,.inr ⟨h.size,cA (D-(xs.length+1)) [.pointer none],rfl,hM _ (aw _),?_,by rw[iA];rfl⟩⟩ ((U.wide.trans (M':=(· =h.size)) n fun b o=>.inl (o▸hM _ (aw _))).trans (M':=(· =h.size)) N fun b o=>.inl (o▸hM _ (aw _)))
     rw[E,a];have:=Bb (A:=A) (X:=X) (B:=B) (Z1:=cA (xs.length+1-k) [.pointer none]) (Z2:=cA (D-(xs.length+1)) [.pointer none]) (r:=(xs.length-k)*1) j c (by rw[y,←eD];congr 1;omega);rw[u,←this];simp only[aC,eD,mw]
 ·have O:xs.length+1≤s.cap:=by omega
  refine⟨by omega,?_⟩;simp only[Bd,dA];rw[sub_zero,gm (show s.cap≠k+1 by omega),gm (show s.cap≠k by omega)]
  refine⟨by omega,?_⟩;have Z:1≤d.length:=by rw[hr];exact lf _ (by omega)
  refine A5 hv hc S (by rw[co,af];omega) ?_;refine aA.2 ⟨by omega,by omega,?_⟩
  have m1:cK 1 (xs.length+1-k)=1:=aW (by omega);have V:cK (xs.length+1-k) (xs.length+1-(k+1))=xs.length-k:=by
   rw[show xs.length+1-(k+1)=xs.length-k by omega];exact lU (by omega)
  rw[V];have br:SRow h (some ⟨b,0+k*1,none⟩) ((xs.length-k)*1) B:=ib hc t (by
   rw[aC,ao,←j,fS,←t,fP])
  refine g4 br g hc (by simp only[af,j,t];omega) fun h1 Y H=>⟨by omega,?_⟩
  rw[m1];have xr1:SRow h1 (some ⟨m,0,none⟩) (1*1) X:=ib (H.get hv S) (by rw[c]) (by rw[cF,bc];rw[c];omega);refine g4 xr1 C Y (by simp only[af,aK,aH,j,t];omega) fun h2 hb2 hu2=>?_
  refine hK _ _ ⟨by simp;omega,ng,O,.inr ⟨b,d.drop 1,rfl,o,?_,?_⟩⟩ ((H.mono fun _ e=>.inl (e▸o)).tr (hu2.mono fun _ e=>.inl (e▸o)))
  ·rw[hb2,a]
   have:=D6 (A:=A) (X:=X) (B:=B) (R:=d) (q:=1) (r:=(xs.length-k)*1) j t Z;rw[←this];simp only[aC,eD,mw]
  ·rw[aH,hr]
   simp only;rw[p];omega
abbrev jW(x:Option Addr):List Value:= [.pointer x]
theorem lG(x:Option Addr):(jW x).length=1∧0<1:=⟨rfl,by omega⟩
theorem xm:∀xs:List (Option Addr),bE (xs.flatMap jW)=true
 | []=>rfl
 |x::xs=>by rw[aJ];exact jb rfl (xm xs)
theorem AZ{h:ae}{a b o la c lb cb:Nat}{f cw:Array Value}{d tb:TypeId}(hv:h[a]? =some (.cells f d (0,0))) (j:h[b]? =some (.cells cw tb (0,0))) (g:a≠b) (k:cw.size≠0) {K:Bool→ae→Prop} (i:K false h):
  HC PG eN [.slice (some ⟨a,0,none⟩) la c,.slice (some ⟨b,o,none⟩) lb cb] [.c .bool] K h:=by
 refine⟨fun w e=>.inr ⟨.bool false,w,?_,Tame.refl w,false,rfl,e▸i⟩⟩
 subst e;rw[lQ];have:=Lib.run_overlaps_apart (P:=PG) w lD pX aE (by kernel_rfl) (bo PG aE) (mg (by kernel_rfl)) ⟨a,0,none⟩ ⟨b,o,none⟩ la c lb cb g d tb f.size cw.size
  (by simp[World.shape?,hv]) (by simp[World.shape?,j]) k (by simp[World.frozen?,hv]) (by simp[World.frozen?,hv])
 rw[show([Value.slice (some ⟨a,0,none⟩) la c,Value.slice (some ⟨b,o,none⟩) lb cb]:List Value).toArray= #[.slice (some ⟨a,0,none⟩) la c,.slice (some ⟨b,o,none⟩) lb cb]from rfl,this]
 rfl
set_option maxRecDepth 4000 in
theorem D3{M:Nat→Prop}{h:ae}{s:SliceV}{xs:List (Option Addr)}(T:OwnS jW 1 aE M h s xs){k:Nat}(hkl:k≤xs.length)(hn:(xs.length+1)*8≤140737488355328){x:Option Addr}{m:Nat}(hv:h[m]? =some (.cells (jW x).toArray aE (0,0)))
  (hvM:¬M m) (hM:∀b,h.size≤b→M b) {K:SliceV→ae→Prop} (hK:∀s' P,OwnS jW 1 aE M P s' (xs.take k++x::xs.drop k)→Upd M h P→K s' P):
  HC PG cT [.slice s.a s.len s.cap,.int .i64 k,.slice (some ⟨m,0,none⟩) 1 1] [.c .slice] K h:=by
 refine gA s k ⟨some ⟨m,0,none⟩,1,1⟩ ?_;unfold d5;have p:=T.len;have hcap:=T.cap;have I:SRow h (some ⟨m,0,none⟩) (1*1) (jW x):=⟨rfl,.inr ⟨_,rfl,nX hv fun i v hi=>by simpa using hi⟩⟩
 refine⟨by omega,ak.2 ?_⟩;refine CondP.intro (fun e=>?_) fun e=>?_
 ·have e:k=xs.length:=by have:=of_decide_eq_true (by simpa using e:decide ((k:Int)=(s.len:Int))=true);omega
  subst e;refine⟨_,I,AppP.own (ys:= [x]) T rfl (by simp) rfl rfl (by omega) (by simp;omega) (hM _ (aw _)) fun s' P ho hu=>hK s' P ?_ hu⟩
  rw[cP,List.drop_length];exact ho
 have hlt:k<xs.length:=by
  rcases bP k xs.length with h|h
  ·exact h
  ·have:((k:Int)==(s.len:Int))=true:=by rw[beq_iff_eq];omega
   rw[this]at e;cases e
 rcases T.blk with h0|⟨b,d,ha,o,hc,hr⟩
 ·omega
 have j:((xs.take k).flatMap jW).length=k*1:=by rw[gQ lG,aK,aW hkl]
 have t:((xs.drop k).flatMap jW).length=(xs.length-k)*1:=by rw[gQ lG,aH]
 have S:m≠b:=fun e=>hvM (e▸o)
 rw[te (f:=jW) xs k]at hc;have a:(xs.take k++x::xs.drop k).flatMap jW=(xs.take k).flatMap jW++(jW x++(xs.drop k).flatMap jW):=by rw[be,aJ]
 have g:=xm (xs.drop k);have c:(jW x).length=1:=rfl;have C:bE (jW x)=true:=rfl;generalize hAe:(xs.take k).flatMap jW=A at j hc a;generalize hBe:(xs.drop k).flatMap jW=B at t hc a g;generalize jW x=X at I c hv a C;rw[ha];have w1:IntKind.wrap .i64 ((xs.length:Int)+((1:Nat):Int))=((xs.length+1:Nat):Int):=by rw[nT (by omega)];omega
 have w2:IntKind.wrap .i64 ((k:Int)+((1:Nat):Int))=((k+1:Nat):Int):=by rw[nT (by omega)];omega
 have w3:IntKind.wrap .i64 (((xs.length+1:Nat):Int)-(k:Int))=((xs.length+1-k:Nat):Int):=by rw[nT (by omega)];omega
 simp only[w1,w2,w3,aN,p];refine bf (fun hgt=>?_) fun hle=>?_
 ·
  have O:s.cap=xs.length:=by omega
  refine Join.plain ⟨by omega,⟨by omega,by omega,by omega,by omega⟩,fun hin=>?_,fun F=>?_⟩
  ·omega
  ·refine⟨A,_,?_,rfl,by omega,Go.growslice_fits F (by omega),fun D w=>?_⟩
   ·rw[sub_zero]
    exact ib hc (by rw[j];omega) (by simp only[cF,dA];rw[ao,←j,dF (aw _),cP])
   ·simp only[aN]at w⊢
    have U:=Upd.hnew No h (A++cA (xs.length+1-k) [.pointer none]++cA (D-(k-0+(xs.length+1-k))) [.pointer none]) aE;have bn:=ci h (A++cA (xs.length+1-k) [.pointer none]++cA (D-(k-0+(xs.length+1-k))) [.pointer none]) aE;have y:(cA (xs.length+1-k) [.pointer none]).length=(xs.length+1-k)*1:=iA _ _;have W:(cA (D-(k-0+(xs.length+1-k))) [.pointer none]).length=(D-(k-0+(xs.length+1-k)))*1:=iA _ _
    have u:k-0+(xs.length+1-k)=xs.length+1:=by omega
    rw[eZ];have hsz:h.size≠m:=fun e=>by have:=aG hv;omega
    have G:h.size≠b:=fun e=>by have:=aG hc;omega
    have J:=U.get0 hc;have L:=U.get0 hv;generalize hnew h _ aE=h9 at U bn J L;rw[u]at w W⊢;have m1:cK 1 (xs.length+1-k)=1:=aW (by omega);have V:cK (xs.length-k) (xs.length+1-(k+1))=xs.length-k:=aW (by omega);rw[m1];have xr9:SRow h9 (some ⟨m,0,none⟩) (1*1) X:=ib L (by rw[c]) (by rw[cF,bc];rw[c];omega)
    refine⟨by omega,?_⟩;rw[gm (by omega)];refine g4 xr9 C bn (by simp only[af,j,y];omega) fun h11 Q n=>⟨by omega,?_⟩
    simp only[Bd];rw[gm (by omega),gm (by omega),V];refine⟨by omega,?_⟩;have z:=n.get J (fun e=>G e.symm)
    have br:SRow h11 (some ⟨b,0+k*1,none⟩) ((xs.length-k)*1) B:=ib z t (by
     rw[aC,ao,←j,fS,←t,fP])
    refine g4 br g Q ?_ fun h16 E N=>?_
    ·simp only[af,aK,aH,j,y,c];omega
    ·refine hK _ _ ⟨by simp;omega,lG,w,.inr ⟨h.size,cA (D-(xs.length+1)) [.pointer none],rfl,hM _ (aw _),?_,by rw[iA];rfl⟩⟩ ((U.wide.trans (M':=(· =h.size)) n fun b o=>.inl (o▸hM _ (aw _))).trans (M':=(· =h.size)) N fun b o=>.inl (o▸hM _ (aw _)))
     rw[E,a];have:=Bb (A:=A) (X:=X) (B:=B) (Z1:=cA (xs.length+1-k) [.pointer none]) (Z2:=cA (D-(xs.length+1)) [.pointer none]) (r:=(xs.length-k)*1) j c (by rw[y,←eD];congr 1;omega);rw[u,←this];simp only[aC,eD,mw]
 ·have O:xs.length+1≤s.cap:=by omega
  refine⟨by omega,?_⟩;simp only[Bd,dA];rw[sub_zero,gm (show s.cap≠k+1 by omega),gm (show s.cap≠k by omega)]
  refine⟨by omega,?_⟩;have Z:1≤d.length:=by rw[hr];exact lf _ (by omega)
  refine AZ hv hc S (by rw[co,af];omega) ?_;refine aA.2 ⟨by omega,by omega,?_⟩
  have m1:cK 1 (xs.length+1-k)=1:=aW (by omega);have V:cK (xs.length+1-k) (xs.length+1-(k+1))=xs.length-k:=by
   rw[show xs.length+1-(k+1)=xs.length-k by omega];exact lU (by omega)
  rw[V];have br:SRow h (some ⟨b,0+k*1,none⟩) ((xs.length-k)*1) B:=ib hc t (by
   rw[aC,ao,←j,fS,←t,fP])
  refine g4 br g hc (by simp only[af,j,t];omega) fun h1 Y H=>⟨by omega,?_⟩
  rw[m1];have xr1:SRow h1 (some ⟨m,0,none⟩) (1*1) X:=ib (H.get hv S) (by rw[c]) (by rw[cF,bc];rw[c];omega);refine g4 xr1 C Y (by simp only[af,aK,aH,j,t];omega) fun h2 hb2 hu2=>?_
  refine hK _ _ ⟨by simp;omega,lG,O,.inr ⟨b,d.drop 1,rfl,o,?_,?_⟩⟩ ((H.mono fun _ e=>.inl (e▸o)).tr (hu2.mono fun _ e=>.inl (e▸o)))
  ·rw[hb2,a]
   have:=D6 (A:=A) (X:=X) (B:=B) (R:=d) (q:=1) (r:=(xs.length-k)*1) j t Z;rw[←this];simp only[aC,eD,mw]
  ·rw[aH,hr]
   simp only;rw[p];omega
end Go.Proofs
namespace Go.Proofs
open Go Go.Lift
theorem vC{W:Nat→Prop}{h:ae}{s:SliceV}{xs:List (ByteArray×ByteArray)}(d:Sl gz 2 W h s xs)(m:xs.length*32≤140737488355328){K:SliceV→ae→Prop}
  (i:∀s' c,OwnS gz 2 al (fun b=>h.size≤b) c s' xs→Upd No h c→K s' c):HC PG cd [.slice s.a s.len s.cap] [.c .slice] K h:=by
 refine jD s ?_;unfold fw qt;refine CondP.intro (fun e=>?_) (fun k=>?_)
 ·have e:s.a=none:=by simpa using e
  have hx:xs= []:=by
   by_cases hx:xs= []
   ·exact hx
   ·obtain⟨a,g,_⟩:=d.row hx
    rw[e]at g;cases g
  subst hx;exact i _ _ (OwnS.nil iI) (Upd.refl _ _)
 ·have o:=d.upd (Upd.hnew No h [] al) (fun _ h=>h.elim)
  refine⟨_,o.srow,?_⟩;refine AppP.own (f:=gz) (M:=fun b=>h.size≤b) (xs:= []) (ys:=xs) ⟨rfl,iI,aw _,.inl rfl⟩ d.len rfl (rE xs) rfl (by omega) (by simpa using m) (by rw[jd];omega) fun s' c j n=>?_
  exact i _ _ j ((Upd.hnew No h [] al).trans n fun b p=>.inr p)
theorem El{M:Nat→Prop}{h:ae}{s:SliceV}{xs:List (ByteArray×ByteArray)}(u:OwnS gz 2 al M h s xs){k:Nat}(z:k<xs.length)(N:xs.length≤4398046511104)
  {K:SliceV→ae→Prop}(I:∀s' h',OwnS gz 2 al M h' s' (xs.take k++xs.drop (k+1))→Upd M h h'→K s' h'):
  HC PG dz [.slice s.a s.len s.cap,.int .i64 k,.int .i64 ((k+1:Nat):Int)] [.c .slice] K h:=by
 refine jq s k ((k+1:Nat):Int) ?_;unfold fo qt;have d:=u.len;have C:=u.cap;rcases u.blk with L|⟨b,a,H,t,hc,F⟩
 ·omega
 have p:((xs.take k).flatMap gz).length=k*2:=by rw[gQ iI,aK,aW (by omega)]
 have m:((xs.drop (k+1)).flatMap gz).length=(xs.length-(k+1))*2:=by rw[gQ iI,aH]
 have E:xs.flatMap gz=(xs.take k).flatMap gz++(gz xs[k]++(xs.drop (k+1)).flatMap gz):=by
  rw[←aJ,←fW z];exact te xs k
 rw[E]at hc;have f:=rE (xs.drop (k+1));have c:(xs.take k++xs.drop (k+1)).flatMap gz=(xs.take k).flatMap gz++(xs.drop (k+1)).flatMap gz:=be;have J:(gz xs[k]).length=2:=rfl;generalize (xs.take k).flatMap gz=A at p hc c;generalize (xs.drop (k+1)).flatMap gz=B at m hc f c;generalize gz xs[k]=X at J hc;rw[H];simp only[d,aN];refine⟨by omega,by omega,by omega,CondP.intro (fun e=>?_) fun _=>?_⟩
 ·have:(k:Int)=((k+1:Nat):Int):=by simpa using e
  omega
 refine Join.plain ⟨by omega,by omega,B,?_,?_⟩
 ·by_cases j:xs.length=k+1
  ·exact⟨m,.inl (bF.1 (by rw[m,j,m3,qp]))⟩
  rw[gm (by omega)];refine ib hc m ?_;have:(A++X).length=0+(k+1)*2:=by rw[af];omega
  rw[show A++(X++B)++a=(A++X)++(B++a) by simp only[ao],bN this,bV m]
 ·rw[sub_zero]
  refine Es hc (by simp only[af];omega) (by omega) f fun O i v=>?_
  have y:a.length=(s.cap-xs.length)*2:=by rw[F,d]
  refine⟨by dsimp only;omega,by dsimp only;omega,?_⟩
  simp only[Bd];rw[gm (by omega)];have G:xs.length-(k-0+(xs.length-(k+1)))=1:=by omega
  have x:(A++(X++B)++a).drop ((k-0)*2+B.length)=(X++B).drop B.length++a:=by
   rw[ao,←cS,bN (show A.length=(k-0)*2 by rw[p,dA]),dI (by rw[af];omega)]
  have q:(A++(X++B)++a).take ((k-0)*2)=A:=by rw[ao,bV (show A.length=(k-0)*2 by rw[p,dA])]
  rw[x,q]at i;have n:((X++B).drop B.length).length=2:=by rw[aH,af];omega
  generalize (X++B).drop B.length=D at n i;rw[G];have hz:(cA 1 [.string (⟨#[]⟩:ByteArray),.string (⟨#[]⟩:ByteArray)]).length=2:=rfl;have g:(A++B).length=0+(k-0+(xs.length-(k+1)))*2:=by rw[af,p,m];omega
  refine AV i (by simp only[af]at g⊢;omega) fun P o w=>?_
  rw[bV g,←cS,bN g]at o;refine I _ _ ⟨by simp;omega,iI,by simp only;omega,.inr ⟨b,cA 1 [.string (⟨#[]⟩:ByteArray),.string (⟨#[]⟩:ByteArray)]++(D++a).drop (cA 1 [.string (⟨#[]⟩:ByteArray),.string (⟨#[]⟩:ByteArray)]).length,rfl,t,?_,?_⟩⟩ ((v.mono fun _ e=>.inl (e▸t)).tr (w.mono fun _ e=>.inl (e▸t)))
  ·rw[o,c];simp only[ao]
  ·simp only[af,aH,hz,n,y]
   omega
theorem As{W:Nat→Prop}{h:ae}{s:SliceV}{xs:List (Option Addr)}(d:Sl my 1 W h s xs)(m:xs.length*8≤140737488355328){K:SliceV→ae→Prop}
  (i:∀s' c,OwnS my 1 aY (fun b=>h.size≤b) c s' xs→Upd No h c→K s' c):HC PG cr [.slice s.a s.len s.cap] [.c .slice] K h:=by
 refine ie s ?_;unfold eK;refine CondP.intro (fun e=>?_) (fun k=>?_)
 ·have e:s.a=none:=by simpa using e
  have hx:xs= []:=by
   by_cases hx:xs= []
   ·exact hx
   ·obtain⟨a,g,_⟩:=d.row hx
    rw[e]at g;cases g
  subst hx;exact i _ _ (OwnS.nil ng) (Upd.refl _ _)
 ·have o:=d.upd (Upd.hnew No h [] aY) (fun _ h=>h.elim)
  refine⟨_,o.srow,?_⟩;refine AppP.own (f:=my) (M:=fun b=>h.size≤b) (xs:= []) (ys:=xs) ⟨rfl,ng,aw _,.inl rfl⟩ d.len rfl (xn xs) rfl (by omega) (by simpa using m) (by rw[jd];omega) fun s' c j n=>?_
  exact i _ _ j ((Upd.hnew No h [] aY).trans n fun b p=>.inr p)
theorem Em{M:Nat→Prop}{h:ae}{s:SliceV}{xs:List (Option Addr)}(u:OwnS my 1 aY M h s xs){k:Nat}(z:k<xs.length)(N:xs.length≤4398046511104)
  {K:SliceV→ae→Prop}(I:∀s' h',OwnS my 1 aY M h' s' (xs.take k++xs.drop (k+1))→Upd M h h'→K s' h'):
  HC PG c7 [.slice s.a s.len s.cap,.int .i64 k,.int .i64 ((k+1:Nat):Int)] [.c .slice] K h:=by
 refine g6 s k ((k+1:Nat):Int) ?_;unfold eB;have d:=u.len;have C:=u.cap;rcases u.blk with L|⟨b,a,H,t,hc,F⟩
 ·omega
 have p:((xs.take k).flatMap my).length=k*1:=by rw[gQ ng,aK,aW (by omega)]
 have m:((xs.drop (k+1)).flatMap my).length=(xs.length-(k+1))*1:=by rw[gQ ng,aH]
 have E:xs.flatMap my=(xs.take k).flatMap my++(my xs[k]++(xs.drop (k+1)).flatMap my):=by
  rw[←aJ,←fW z];exact te xs k
 rw[E]at hc;have f:=xn (xs.drop (k+1));have c:(xs.take k++xs.drop (k+1)).flatMap my=(xs.take k).flatMap my++(xs.drop (k+1)).flatMap my:=be;have J:(my xs[k]).length=1:=rfl;generalize (xs.take k).flatMap my=A at p hc c;generalize (xs.drop (k+1)).flatMap my=B at m hc f c;generalize my xs[k]=X at J hc;rw[H];simp only[d,aN];refine⟨by omega,by omega,by omega,CondP.intro (fun e=>?_) fun _=>?_⟩
 ·have:(k:Int)=((k+1:Nat):Int):=by simpa using e
  omega
 refine Join.plain ⟨by omega,by omega,B,?_,?_⟩
 ·by_cases j:xs.length=k+1
  ·exact⟨m,.inl (bF.1 (by rw[m,j,m3,qp]))⟩
  rw[gm (by omega)];refine ib hc m ?_;have:(A++X).length=0+(k+1)*1:=by rw[af];omega
  rw[show A++(X++B)++a=(A++X)++(B++a) by simp only[ao],bN this,bV m]
 ·rw[sub_zero]
  refine Es hc (by simp only[af];omega) (by omega) f fun O i v=>?_
  have y:a.length=(s.cap-xs.length)*1:=by rw[F,d]
  refine⟨by dsimp only;omega,by dsimp only;omega,?_⟩
  simp only[Bd];rw[gm (by omega)];have G:xs.length-(k-0+(xs.length-(k+1)))=1:=by omega
  have x:(A++(X++B)++a).drop ((k-0)*1+B.length)=(X++B).drop B.length++a:=by
   rw[ao,←cS,bN (show A.length=(k-0)*1 by rw[p,dA]),dI (by rw[af];omega)]
  have q:(A++(X++B)++a).take ((k-0)*1)=A:=by rw[ao,bV (show A.length=(k-0)*1 by rw[p,dA])]
  rw[x,q]at i;have n:((X++B).drop B.length).length=1:=by rw[aH,af];omega
  generalize (X++B).drop B.length=D at n i;rw[G];have hz:(cA 1 [.pointer none]).length=1:=rfl;have g:(A++B).length=0+(k-0+(xs.length-(k+1)))*1:=by rw[af,p,m];omega
  refine AV i (by simp only[af]at g⊢;omega) fun P o w=>?_
  rw[bV g,←cS,bN g]at o;refine I _ _ ⟨by simp;omega,ng,by simp only;omega,.inr ⟨b,cA 1 [.pointer none]++(D++a).drop (cA 1 [.pointer none]).length,rfl,t,?_,?_⟩⟩ ((v.mono fun _ e=>.inl (e▸t)).tr (w.mono fun _ e=>.inl (e▸t)))
  ·rw[o,c];simp only[ao]
  ·simp only[af,aH,hz,n,y]
   omega
theorem Ar{W:Nat→Prop}{h:ae}{s:SliceV}{xs:List (Option Addr)}(d:Sl jW 1 W h s xs)(m:xs.length*8≤140737488355328){K:SliceV→ae→Prop}
  (i:∀s' c,OwnS jW 1 aE (fun b=>h.size≤b) c s' xs→Upd No h c→K s' c):HC PG ce [.slice s.a s.len s.cap] [.c .slice] K h:=by
 refine gR s ?_;unfold ef;refine CondP.intro (fun e=>?_) (fun k=>?_)
 ·have e:s.a=none:=by simpa using e
  have hx:xs= []:=by
   by_cases hx:xs= []
   ·exact hx
   ·obtain⟨a,g,_⟩:=d.row hx
    rw[e]at g;cases g
  subst hx;exact i _ _ (OwnS.nil lG) (Upd.refl _ _)
 ·have o:=d.upd (Upd.hnew No h [] aE) (fun _ h=>h.elim)
  refine⟨_,o.srow,?_⟩;refine AppP.own (f:=jW) (M:=fun b=>h.size≤b) (xs:= []) (ys:=xs) ⟨rfl,lG,aw _,.inl rfl⟩ d.len rfl (xm xs) rfl (by omega) (by simpa using m) (by rw[jd];omega) fun s' c j n=>?_
  exact i _ _ j ((Upd.hnew No h [] aE).trans n fun b p=>.inr p)
theorem Ek{M:Nat→Prop}{h:ae}{s:SliceV}{xs:List (Option Addr)}(u:OwnS jW 1 aE M h s xs){k:Nat}(z:k<xs.length)(N:xs.length≤4398046511104)
  {K:SliceV→ae→Prop}(I:∀s' h',OwnS jW 1 aE M h' s' (xs.take k++xs.drop (k+1))→Upd M h h'→K s' h'):
  HC PG cU [.slice s.a s.len s.cap,.int .i64 k,.int .i64 ((k+1:Nat):Int)] [.c .slice] K h:=by
 refine gB s k ((k+1:Nat):Int) ?_;unfold d8;have d:=u.len;have C:=u.cap;rcases u.blk with L|⟨b,a,H,t,hc,F⟩
 ·omega
 have p:((xs.take k).flatMap jW).length=k*1:=by rw[gQ lG,aK,aW (by omega)]
 have m:((xs.drop (k+1)).flatMap jW).length=(xs.length-(k+1))*1:=by rw[gQ lG,aH]
 have E:xs.flatMap jW=(xs.take k).flatMap jW++(jW xs[k]++(xs.drop (k+1)).flatMap jW):=by
  rw[←aJ,←fW z];exact te xs k
 rw[E]at hc;have f:=xm (xs.drop (k+1));have c:(xs.take k++xs.drop (k+1)).flatMap jW=(xs.take k).flatMap jW++(xs.drop (k+1)).flatMap jW:=be;have J:(jW xs[k]).length=1:=rfl;generalize (xs.take k).flatMap jW=A at p hc c;generalize (xs.drop (k+1)).flatMap jW=B at m hc f c;generalize jW xs[k]=X at J hc;rw[H];simp only[d,aN];refine⟨by omega,by omega,by omega,CondP.intro (fun e=>?_) fun _=>?_⟩
 ·have:(k:Int)=((k+1:Nat):Int):=by simpa using e
  omega
 refine Join.plain ⟨by omega,by omega,B,?_,?_⟩
 ·by_cases j:xs.length=k+1
  ·exact⟨m,.inl (bF.1 (by rw[m,j,m3,qp]))⟩
  rw[gm (by omega)];refine ib hc m ?_;have:(A++X).length=0+(k+1)*1:=by rw[af];omega
  rw[show A++(X++B)++a=(A++X)++(B++a) by simp only[ao],bN this,bV m]
 ·rw[sub_zero]
  refine Es hc (by simp only[af];omega) (by omega) f fun O i v=>?_
  have y:a.length=(s.cap-xs.length)*1:=by rw[F,d]
  refine⟨by dsimp only;omega,by dsimp only;omega,?_⟩
  simp only[Bd];rw[gm (by omega)];have G:xs.length-(k-0+(xs.length-(k+1)))=1:=by omega
  have x:(A++(X++B)++a).drop ((k-0)*1+B.length)=(X++B).drop B.length++a:=by
   rw[ao,←cS,bN (show A.length=(k-0)*1 by rw[p,dA]),dI (by rw[af];omega)]
  have q:(A++(X++B)++a).take ((k-0)*1)=A:=by rw[ao,bV (show A.length=(k-0)*1 by rw[p,dA])]
  rw[x,q]at i;have n:((X++B).drop B.length).length=1:=by rw[aH,af];omega
  generalize (X++B).drop B.length=D at n i;rw[G];have hz:(cA 1 [.pointer none]).length=1:=rfl;have g:(A++B).length=0+(k-0+(xs.length-(k+1)))*1:=by rw[af,p,m];omega
  refine AV i (by simp only[af]at g⊢;omega) fun P o w=>?_
  rw[bV g,←cS,bN g]at o;refine I _ _ ⟨by simp;omega,lG,by simp only;omega,.inr ⟨b,cA 1 [.pointer none]++(D++a).drop (cA 1 [.pointer none]).length,rfl,t,?_,?_⟩⟩ ((v.mono fun _ e=>.inl (e▸t)).tr (w.mono fun _ e=>.inl (e▸t)))
  ·rw[o,c];simp only[ao]
  ·simp only[af,aH,hz,n,y]
   omega
end Go.Proofs
namespace Go.Proofs
open Go.Lift
abbrev Pr:=ByteArray×ByteArray
theorem vD{a b:ByteArray}:a.toList=b.toList↔a=b:=by
 constructor
 ·intro h
  rw[ByteArray.toList_eq,ByteArray.toList_eq]at h;cases a;cases b;simp at h;subst h;rfl
 ·rintro rfl;rfl
def kl(a b:ByteArray):Prop:=Op.bytesLess a.toList b.toList=true
instance (a b:ByteArray):Decidable (kl a b):=inferInstanceAs (Decidable (_=true))
theorem DU{a b:ByteArray}:kl a b↔a.toList<b.toList:=by unfold kl;rw[bytesLess_eq,decide_eq_true_iff]
theorem db(a:ByteArray):¬kl a a:=by rw[DU];exact List.lt_irrefl _
theorem kL{a b c:ByteArray}(h:kl a b)(k:kl b c):kl a c:=by rw[DU]at*;exact List.lt_trans h k
theorem tri:∀x y:List UInt8,Op.bytesLess x y=false→x≠y→Op.bytesLess y x=true
 | [],[],_,h=>absurd rfl h
 | [],_::_,h,_=>by simp[Op.bytesLess]at h
 |_::_,[],_,_=>rfl
 |a::x,b::y,h,hn=>by
  simp only[Op.bytesLess,Bool.or_eq_false_iff,decide_eq_false_iff_not,Bool.and_eq_false_iff]at h;simp only[Op.bytesLess,Bool.or_eq_true,decide_eq_true_iff,Bool.and_eq_true];by_cases e:a=b
  ·subst e
   right;refine⟨by simp,tri x y ?_ fun e=>hn (by rw[e])⟩
   rcases h.2 with h|h
   ·simp at h
   ·exact h
  ·left
   have c:=h.1;rw[UInt8.lt_iff_toNat_lt]at c⊢;have:a.toNat≠b.toNat:=fun h=>e (UInt8.toNat_inj.1 h)
   omega
theorem yk{a b:ByteArray}(h:¬kl a b)(k:a≠b):kl b a:=tri _ _ (by unfold kl at h;simpa using h) fun e=>k (vD.1 e)
def CT(a b:ByteArray):Int:=if kl a b then-1 else if a=b then 0 else 1
theorem CB{x:ByteArray}{h:ae}{K:Bool→ae→Prop}(a:K false h):HC PG jZ [.string x] [.c .bool] K h:=by
 refine xe x ?_;unfold qH;simpa using a
theorem En{a b:ByteArray}{h:ae}{K:Int→ae→Prop}(c:K (CT a b) h):HC PG kU [.string a,.string b] [.c (.int .i64)] K h:=by
 refine uJ a b ?_;unfold oU;refine CB (CB (ak.2 (ak.2 ?_)));unfold CT at c;refine CondP.intro (fun e=>?_) fun e=>?_
 ·rw[if_pos (show kl a b from e)]at c;exact c
 ·have f:¬kl a b:=fun h=>by rw[show Op.bytesLess a.toList b.toList=true from h]at e;cases e
  rw[if_neg f]at c;rw[e];refine CondP.intro (fun d=>?_) fun d=>?_
  ·rw[if_neg (fun h=>by subst h;simp at d)]at c;exact c
  ·have:a.toList=b.toList:=by simpa using d
   rw[if_pos (vD.1 this)]at c;exact c
theorem Hq{p:Pr}{k:ByteArray}{h:ae}{K:Int→ae→Prop}(a:∀h',Upd No h h'→K (CT p.1 k) h'):HC PG mX [.agg #[.string p.1,.string p.2],.string k] [.c (.int .i64)] K h:=by
 refine BC p k ?_;unfold uP aD oZ tW;have b1:=ci h [.string p.1,.string p.2] al;refine⟨p.1,by rw[eZ,bC,aV b1];rfl,En (a _ (Upd.hnew No h _ _))⟩
abbrev cq(l:List Pr):Prop:=l.Pairwise fun p q=>kl p.1 q.1
def kc(l:List Pr)(k:ByteArray):Nat:=(l.takeWhile fun p=>decide (kl p.1 k)).length
def bK(l:List Pr)(k:ByteArray):Bool:=l.any fun p=>decide (p.1=k)
theorem Hj{l:List Pr}{k:ByteArray}{i:Nat}(hi:i≤l.length)(a:∀j (h:j<l.length),j<i→kl l[j].1 k)(b:∀(h:i<l.length),¬kl l[i].1 k):kc l k=i:=by
 unfold kc;induction l generalizing i with
 |nil=>simp at hi;simp[hi]
 |cons p l ih=>
  rw[List.takeWhile_cons];cases i with
  |zero=>
   have:=b (by simp);simp only[List.getElem_cons_zero]at this;rw[if_neg (by simpa using this)];rfl
  |succ i=>
   have:=a 0 (by simp) (by omega);simp only[List.getElem_cons_zero]at this;rw[if_pos (by simpa using this),List.length_cons];congr 1
   refine ih (by simpa using hi) (fun j c d=>?_) fun h=>?_
   ·have:=a (j+1) (by simpa using c) (by omega)
    simpa using this
   ·have:=b (by simpa using h)
    simpa using this
theorem Hk(l:List Pr)(k:ByteArray):kc l k≤l.length:=by
 unfold kc;exact(List.takeWhile_prefix _).length_le
theorem Bf{W:Nat→Prop}{h:ae}{s:SliceV}{l:List Pr}(V:Sl gz 2 W h s l)(hr:cq l)(hn:l.length≤1000000000)(k:ByteArray){K:Int×Bool→ae→Prop}
  (E:∀z,Upd No h z→K ((kc l k:Int),bK l k) z):HC PG ml [.slice s.a s.len s.cap,.string k] [.c (.int .i64),.c .bool] K h:=by
 refine C1 s k ?_;unfold wT;refine fJ s k _ ?_;unfold dg f6 bQ pq D0;have Y:=V.len;have H:∀{p:Pr} {h:ae} {K:Int→ae→Prop},(∀z,Upd No h z→K (CT p.1 k) z)→HV PG (.func (.func mX) #[] #[]) [.agg #[.string p.1,.string p.2],.string k] [.c (.int .i64)] K h:=fun E=>HV.mk' (Hq E)
 refine LoopP.ghost (fun(g:Nat×Nat) (t:Int×Int) z=>t.1=(g.1:Int)∧t.2=(g.2:Int)∧g.1≤g.2∧g.2≤l.length∧Upd No h z∧(∀j (S:j<l.length),j<g.1→kl l[j].1 k)∧(∀j (S:j<l.length),g.2≤j→¬kl l[j].1 k)) (fun g=>g.2-g.1) (0,l.length)
  ⟨rfl,by simp only;omega,by simp,by simp,Upd.refl _ _,fun j S h=>by omega,fun j S h=>by simp only at h;omega⟩ ?_
 rintro I ⟨i,j⟩ ⟨ti,tj⟩ z ⟨T,Z,B,A,G,d,w⟩ X;simp only at T Z B A d w;subst T Z;have J:=V.upd G fun _ h=>h.elim
 have mono:∀a b (F:a<l.length) (U:b<l.length),a<b→kl l[a].1 l[b].1:=fun a b F U O=>List.pairwise_iff_getElem.1 hr a b F U O
 refine bf (fun u=>?_) fun P=>?_
 ·have u:i<j:=by have:(i:Int)<(j:Int):=u;omega
  have em:IntKind.wrap .i64 (eL (IntKind.wrap .u64 (IntKind.wrap .i64 ((i:Int)+(j:Int)))) (2^(min (1:Int).toNat (IntKind.bits .u64))))=(((i+j)/2:Nat):Int):=by
   have e3:(2^(min (1:Int).toNat (IntKind.bits .u64)):Int)=2:=rfl;rw[e3,nT (x:=(i:Int)+(j:Int)) (by omega),Go.IntWalk.u64_in _ (by omega),Int.fdiv_eq_ediv_of_nonneg _ (by omega),nT (by omega)];omega
  refine⟨by decide,?_⟩;simp only[Bd];rw[em];generalize hm:(i+j)/2=m;have D:m<l.length:=by omega
  obtain⟨a,F,_,hv⟩:=J.at (aj D);refine⟨by omega,a,F,l[m].1,hv 0 _ rfl,l[m].2,hv 1 _ rfl,H fun h2 v=>?_⟩
  refine bf (fun n=>?_) fun L=>?_
  ·have c:kl l[m].1 k:=by
    unfold CT at n;by_cases c:kl l[m].1 k
    ·exact c
    ·rw[if_neg c]at n;split at n<;>omega
   refine X (m+1,j) _ _ ⟨by simp only;rw[nT (by omega)];omega,rfl,by simp only;omega,A,G.tr v,fun q y C=>?_,w⟩ (by simp only;omega)
   simp only at C;rcases bP q m with h|h
   ·exact kL (mono q m y D h) c
   ·have:q=m:=by omega
    subst this;exact c
  ·have o:¬kl l[m].1 k:=fun c=>L (by unfold CT;rw[if_pos c];decide)
   refine X (i,m) _ _ ⟨rfl,rfl,by simp only;omega,by simp only;omega,G.tr v,d,fun q y C M=>?_⟩ (by simp only;omega)
   simp only at C;rcases bP m q with h|h
   ·exact o (kL (mono m q D y h) M)
   ·have:q=m:=by omega
    subst this;exact o M
 ·have B:i=j:=by have:¬(i:Int)<(j:Int):=P;omega
  subst B;have N:kc l k=i:=Hj A d fun hi=>w i hi (aw _)
  rw[N]at E;refine bf (fun u=>?_) fun R=>?_
  ·have f:i<l.length:=by have:(i:Int)<(s.len:Int):=u;omega
   obtain⟨a,F,_,hv⟩:=J.at (aj f);refine⟨by simp only;omega,a,F,l[i].1,hv 0 _ rfl,l[i].2,hv 1 _ rfl,H fun h2 v=>?_⟩
   have o:=w i f (aw _);have Q:(CT l[i].1 k==(0:Int))=bK l k:=by
    unfold CT bK;rw[if_neg o,Bool.eq_iff_iff,List.any_eq_true];constructor
    ·intro h
     split at h
     ·rename_i e;exact⟨l[i],List.getElem_mem f,decide_eq_true e⟩
     ·simp at h
    ·rintro⟨p,N,e⟩
     have e:=of_decide_eq_true e;obtain⟨q,y,rfl⟩:=List.mem_iff_getElem.1 N;have:q=i:=by
      rcases Nat.lt_trichotomy q i with h|h|h
      ·exact absurd (e▸d q y h) (db _)
      ·exact h
      ·exact absurd (e▸mono i q f y h) o
     subst this;rw[if_pos e];rfl
   rw[Q];exact E _ (G.tr v)
  ·have f:i=l.length:=by have:¬(i:Int)<(s.len:Int):=R;omega
   have Q:bK l k=false:=by
    unfold bK;rw[List.any_eq_false];intro p N e;have e:=of_decide_eq_true e;obtain⟨q,y,rfl⟩:=List.mem_iff_getElem.1 N;exact absurd (e▸d q y (by omega)) (db _)
   rw[Q]at E;exact E _ G
end Go.Proofs
