/- A part of the proof that the named laws of this program answer true, whatever the input. -/
import Derived.Test.YtajpljopgikpgaaGreatTreeF0
import Derived.Test.YtajpljopgikpgaaGreatLaw0
import Derived.Test.YtajpljopgikpgaaGreatLift3
import Derived.Lib.Overlaps
import Derived.Sort.Walk0
open BitVec renaming ofInt→ad
open Int renaming fdiv→ey,toNat_natCast→aK
open List renaming flatMap_cons→ba,take_length→cG,length_take→aE,length_drop→aB,flatMap_append→bh,drop_zero→cP,append_assoc→ay,take_append_of_le_length→cJ,take_of_length_le→aV,length_append→ae,drop_left→gi,take_left→fg,size_toArray→bG,drop_eq_getElem_cons→gH,length_eq_zero_iff→bp,drop_left'→bH,take_left'→bW,drop_drop→cB,drop_append_of_le_length→dH,getElem?_eq_getElem→aq
open Nat renaming zero_add→ar,sub_self→mK,le_refl→av,lt_or_ge→bV,min_eq_left→aL,sub_zero→c7,min→bU,add_one_mul→dk,one_mul→jK,le_mul_of_pos_left→iU,min_eq_right→jp
namespace Go.Proofs
open Go.Lift
theorem xp(n:Int):0≤IntKind.wrap .u64 n∧IntKind.wrap .u64 n<18446744073709551616:=by rw[IntKind.wrap_u64];omega
theorem nR{x:Int}(h: -4611686018427387904≤x∧x≤4611686018427387904):IntKind.wrap .i64 x=x:=Go.IntWalk.i64_in _ (by omega)
theorem ke{i n:Nat}(h:i<n)(a:n≤4611686018427387904):IntKind.wrap .i64 ((i:Int)+1)=((i+1:Nat):Int):=by rw[nR (by omega)];omega
theorem qJ{h:ac}{b i:Nat}{c:Array Value}{t:TypeId}{v:Value}{k:ac→Prop}(a:h[b]? =some (.cells c t (0,0)))
  (d:∀h',h'[b]? =some (.cells (c.setIfInBounds i v) t (0,0))→Upd (· =b) h h'→k h'):At (hset h ⟨b,i,none⟩ v) k:=by
 refine d _ ?_ (Upd.hset _ _ rfl);rw[tc a,gp a]
def BW(a b:Int):Int:=IntKind.wrap .u64 (ad (IntKind.bits .u64) a&&&ad (IntKind.bits .u64) b).toNat
def de(a b:Int):Int:=IntKind.wrap .u64 (ad (IntKind.bits .u64) a^^^ad (IntKind.bits .u64) b).toNat
def A5(a b:Int):Int:=IntKind.wrap .u64 (ad (IntKind.bits .u64) a|||ad (IntKind.bits .u64) b).toNat
def xF(x n:Int):Int:=
 A5 (IntKind.wrap .u64 (x*2^(min (BW (IntKind.wrap .u64 n) 63).toNat (IntKind.bits .u64)))) (ey x (2^(min (IntKind.wrap .u64 (64-BW (IntKind.wrap .u64 n) 63)).toNat (IntKind.bits .u64))))
theorem qq{x n:Int}{h:ac}{K:Int→ac→Prop}(a:K (xF x n) h):HC PG bC [.int .u64 x,.int .i64 n] [.c (.int .u64)] K h:=by
 refine lR x n ?_;unfold gV;exact⟨(xp _).1,(xp _).1,a⟩
abbrev Q4:=Int×Int×Int×Int
def q4(s:Q4):Array Value:= #[.int .u64 s.1,.int .u64 s.2.1,.int .u64 s.2.2.1,.int .u64 s.2.2.2]
def CL(a b:Int):Int:=IntKind.wrap .u64 (a+b)
def B8(s:Q4):Q4:=(CL s.1 s.2.1,s.2)
def Cm(s:Q4):Q4:=(s.1,de (xF s.2.1 13) s.1,s.2.2)
def CS(s:Q4):Q4:=(xF s.1 32,s.2)
def De(s:Q4):Q4:=(s.1,s.2.1,CL s.2.2.1 s.2.2.2,s.2.2.2)
def DW(s:Q4):Q4:=(s.1,s.2.1,s.2.2.1,de (xF s.2.2.2 16) s.2.2.1)
def Eb(s:Q4):Q4:=(CL s.1 s.2.2.2,s.2)
def Ew(s:Q4):Q4:=(s.1,s.2.1,s.2.2.1,de (xF s.2.2.2 21) s.1)
def EH(s:Q4):Q4:=(s.1,s.2.1,CL s.2.2.1 s.2.1,s.2.2.2)
def s09(s:Q4):Q4:=(s.1,de (xF s.2.1 17) s.2.2.1,s.2.2)
def s10(s:Q4):Q4:=(s.1,s.2.1,xF s.2.2.1 32,s.2.2.2)
def xE(s:Q4):Q4:=s10 (s09 (EH (Ew (Eb (DW (De (CS (Cm (B8 s)))))))))
def ix:Nat→Q4→Q4
 |0,s=>s
 |n+1,s=>ix n (xE s)
theorem jb{h:ac}{b i:Nat}{t:TypeId}{s s':Q4}{v:Value}{k:ac→Prop}(d:h[b]? =some (.cells (q4 s) t (0,0))) (e:(q4 s).setIfInBounds i v=q4 s')
  (g:∀a,a[b]? =some (.cells (q4 s') t (0,0))→Upd (· =b) h a→k a):At (hset h ⟨b,i,none⟩ v) k:=
 qJ d fun a c f=>g a (e▸c) f
theorem uw{n:Nat}(hn:n≤100){h:ac}{b:Nat}{t:TypeId}{s:Q4}(A:h[b]? =some (.cells (q4 s) t (0,0))) {K:Unit→ac→Prop}
  (P:∀v,v[b]? =some (.cells (q4 (ix n s)) t (0,0))→Upd (· =b) h v→K () v):HC PG ee [.pointer (some ⟨b,0,none⟩),.int .i64 n] [] K h:=by
 refine o5 _ _ ?_;unfold kF dT gg c5 nT;refine LoopP.ghost (fun(g:Nat×Q4) (O:Int) v=>O=(g.1:Int)∧g.1≤n∧v[b]? =some (.cells (q4 g.2) t (0,0))∧Upd (· =b) h v∧ix (n-g.1) g.2=ix n s) (fun g=>n-g.1) (0,s) ⟨rfl,Nat.zero_le _,A,Upd.refl _ _,rfl⟩ ?_
 rintro I ⟨i,s1⟩ O v ⟨Q,D,a,N,x⟩ U;simp only at Q D a x;subst Q;refine bi (fun q=>?_) fun T=>?_
 ·have q:i<n:=by omega
  have c:∀{h:ac} {s:Q4} {i:Nat},h[b]? =some (.cells (q4 s) t (0,0))→aP h ⟨b,0+i,none⟩=(q4 s)[i]?:=fun A=>by rw[ar];exact aH A
  have w:∀{h:ac} {s:Q4} {i:Nat},h[b]? =some (.cells (q4 s) t (0,0))→i<4→Wr h ⟨b,0+i,none⟩:=fun A D=>by rw[ar];exact fq A D
  simp only[show((0:Int)).toNat*1=0 from rfl,show((1:Int)).toNat*1=1 from rfl,show((2:Int)).toNat*1=2 from rfl,show((3:Int)).toNat*1=3 from rfl]
  refine⟨_,rfl,by decide,_,c (i:=0) a,_,rfl,by decide,_,c (i:=1) a,_,rfl,by decide,w (i:=0) a (by decide),jb (s':=B8 s1) a rfl fun Y d J=>?_⟩
  refine⟨_,rfl,by decide,_,c (i:=1) d,_,rfl,by decide,_,c (i:=0) d,_,rfl,qq ⟨c (i:=0) d,by decide,w (i:=1) d (by decide),jb (s':=Cm (B8 s1)) d rfl fun h3 u F=>?_⟩⟩
  refine⟨_,rfl,by decide,_,c (i:=0) u,_,rfl,qq ⟨by decide,w (i:=0) u (by decide),jb (s':=CS (Cm (B8 s1))) u rfl fun h4 m H=>?_⟩⟩
  refine⟨_,rfl,by decide,_,c (i:=2) m,_,rfl,by decide,_,c (i:=3) m,_,rfl,by decide,w (i:=2) m (by decide),jb (s':=De (CS (Cm (B8 s1)))) m rfl fun W j G=>?_⟩
  refine⟨_,rfl,by decide,_,c (i:=3) j,_,rfl,by decide,_,c (i:=2) j,_,rfl,qq ⟨c (i:=2) j,by decide,w (i:=3) j (by decide),jb (s':=DW (De (CS (Cm (B8 s1))))) j rfl fun X o C=>?_⟩⟩
  refine⟨_,rfl,by decide,_,c (i:=0) o,_,rfl,by decide,_,c (i:=3) o,_,rfl,by decide,w (i:=0) o (by decide),jb (s':=Eb (DW (De (CS (Cm (B8 s1)))))) o rfl fun V f E=>?_⟩
  refine⟨_,rfl,by decide,_,c (i:=3) f,_,rfl,by decide,_,c (i:=0) f,_,rfl,qq ⟨c (i:=0) f,by decide,w (i:=3) f (by decide),jb (s':=Ew (Eb (DW (De (CS (Cm (B8 s1))))))) f rfl fun Z p M=>?_⟩⟩
  refine⟨_,rfl,by decide,_,c (i:=2) p,_,rfl,by decide,_,c (i:=1) p,_,rfl,by decide,w (i:=2) p (by decide),jb (s':=EH (Ew (Eb (DW (De (CS (Cm (B8 s1)))))))) p rfl fun h9 k L=>?_⟩
  refine⟨_,rfl,by decide,_,c (i:=1) k,_,rfl,by decide,_,c (i:=2) k,_,rfl,qq ⟨c (i:=2) k,by decide,w (i:=1) k (by decide),jb (s':=s09 (EH (Ew (Eb (DW (De (CS (Cm (B8 s1))))))))) k rfl fun S e B=>?_⟩⟩
  refine⟨_,rfl,by decide,_,c (i:=2) e,_,rfl,qq ⟨by decide,w (i:=2) e (by decide),jb (s':=xE s1) e rfl fun R z y=>?_⟩⟩
  rw[ke q (by omega)];refine U (i+1,xE s1) _ _ ⟨rfl,q,z,N.tr (J.tr (F.tr (H.tr (G.tr (C.tr (E.tr (M.tr (L.tr (B.tr y))))))))),?_⟩ (by simp only;omega);simp only;rw[←x,show n-i=(n-(i+1))+1 by omega];rfl
 ·obtain rfl:i=n:=by omega
  rw[mK]at x;have x:s1=ix i s:=x;rw[←x]at P;exact P _ a N
end Go.Proofs
namespace Go.Proofs
open Go.Lift
def CH(s:ByteArray)(i:Nat):Int:=match s[i]? with|some b=>(b.toNat:Int)|none=>0
def Ev(b:Int)(n:Int):Int:=IntKind.wrap .u64 ((IntKind.wrap .u64 b)*2^(min n.toNat (IntKind.bits .u64)))
def wj(s:ByteArray):Nat→Int→Int
 |0,t=>t
 |k+1,t=>wj s k (A5 t (if k=0 then IntKind.wrap .u64 (CH s 0)else Ev (CH s k) ((8*k:Nat):Int)))
def q9(s:ByteArray):Int:=wj s s.size 0
theorem lm{s:ByteArray}{i:Nat}(h:i<s.size):∃b,s[i]? =some b∧CH s i=(b.toNat:Int):=⟨s[i],getElem?_pos s i h,by simp[CH,getElem?_pos s i h]⟩
theorem yS{s:ByteArray}(P:s.size≤8){h:ac}{K:Int→ac→Prop}(g:K (q9 s) h):HC PG mB [.string s] [.c (.int .u64)] K h:=by
 refine yF s ?_;unfold tN;refine Join.intro (fun t f=>f=h∧1≤s.size∧wj s 1 t=wj s s.size 0) (fun F o=>?_) ?_
 ·refine Join.intro (fun t f=>f=h∧2≤s.size∧wj s 2 t=wj s s.size 0) (fun L p=>?_) ?_
  ·refine Join.intro (fun t f=>f=h∧3≤s.size∧wj s 3 t=wj s s.size 0) (fun Q m=>?_) ?_
   ·refine Join.intro (fun t f=>f=h∧4≤s.size∧wj s 4 t=wj s s.size 0) (fun R4 j=>?_) ?_
    ·refine Join.intro (fun t f=>f=h∧5≤s.size∧wj s 5 t=wj s s.size 0) (fun G q=>?_) ?_
     ·refine Join.intro (fun t f=>f=h∧6≤s.size∧wj s 6 t=wj s s.size 0) (fun E k=>?_) ?_
      ·refine Join.intro (fun t f=>f=h∧7≤s.size∧wj s 7 t=wj s s.size 0) (fun D n=>?_) ?_
       ·refine CondP.intro (fun e=>?_) fun w=>?_
        ·have e:s.size=8:=by have:=of_decide_eq_true (by simpa using e:decide ((s.size:Int)=8)=true);omega
         obtain⟨b,a,hv⟩:=lm (s:=s) (i:=7) (by omega);refine⟨b,by decide,a,by decide,n _ _ ⟨rfl,by omega,?_⟩⟩
         rw[e,←hv];rfl
        refine CondP.intro (fun e=>?_) fun u=>?_
        ·have e:s.size=7:=by have:=of_decide_eq_true (by simpa using e:decide ((s.size:Int)=7)=true);omega
         exact n _ _ ⟨rfl,by omega,by rw[e]⟩
        refine CondP.intro (fun e=>?_) fun x=>?_
        ·have e:s.size=6:=by have:=of_decide_eq_true (by simpa using e:decide ((s.size:Int)=6)=true);omega
         exact k _ _ ⟨rfl,by omega,by rw[e]⟩
        refine CondP.intro (fun e=>?_) fun z=>?_
        ·have e:s.size=5:=by have:=of_decide_eq_true (by simpa using e:decide ((s.size:Int)=5)=true);omega
         exact q _ _ ⟨rfl,by omega,by rw[e]⟩
        refine CondP.intro (fun e=>?_) fun B=>?_
        ·have e:s.size=4:=by have:=of_decide_eq_true (by simpa using e:decide ((s.size:Int)=4)=true);omega
         exact j _ _ ⟨rfl,by omega,by rw[e]⟩
        refine CondP.intro (fun e=>?_) fun v=>?_
        ·have e:s.size=3:=by have:=of_decide_eq_true (by simpa using e:decide ((s.size:Int)=3)=true);omega
         exact m _ _ ⟨rfl,by omega,by rw[e]⟩
        refine CondP.intro (fun e=>?_) fun A=>?_
        ·have e:s.size=2:=by have:=of_decide_eq_true (by simpa using e:decide ((s.size:Int)=2)=true);omega
         exact p _ _ ⟨rfl,by omega,by rw[e]⟩
        refine CondP.intro (fun e=>?_) fun y=>?_
        ·have e:s.size=1:=by have:=of_decide_eq_true (by simpa using e:decide ((s.size:Int)=1)=true);omega
         exact o _ _ ⟨rfl,by omega,by rw[e]⟩
        have e:s.size=0:=by
         have M:¬(s.size:Int)=1:=by simpa using y
         have C:¬(s.size:Int)=2:=by simpa using A
         have H:¬(s.size:Int)=3:=by simpa using v
         have q4:¬(s.size:Int)=4:=by simpa using B
         have J:¬(s.size:Int)=5:=by simpa using z
         have O:¬(s.size:Int)=6:=by simpa using x
         have N:¬(s.size:Int)=7:=by simpa using u
         have I:¬(s.size:Int)=8:=by simpa using w
         omega
        unfold q9 at g;rw[e]at g;exact g
       ·rintro t _ ⟨rfl,d,c⟩
        obtain⟨b,a,hv⟩:=lm (s:=s) (i:=6) (by omega);refine⟨b,by decide,a,by decide,k _ _ ⟨rfl,by omega,?_⟩⟩
        rw[←c,←hv];rfl
      ·rintro t _ ⟨rfl,d,c⟩
       obtain⟨b,a,hv⟩:=lm (s:=s) (i:=5) (by omega);refine⟨b,by decide,a,by decide,q _ _ ⟨rfl,by omega,?_⟩⟩
       rw[←c,←hv];rfl
     ·rintro t _ ⟨rfl,d,c⟩
      obtain⟨b,a,hv⟩:=lm (s:=s) (i:=4) (by omega);refine⟨b,by decide,a,by decide,j _ _ ⟨rfl,by omega,?_⟩⟩
      rw[←c,←hv];rfl
    ·rintro t _ ⟨rfl,d,c⟩
     obtain⟨b,a,hv⟩:=lm (s:=s) (i:=3) (by omega);refine⟨b,by decide,a,by decide,m _ _ ⟨rfl,by omega,?_⟩⟩
     rw[←c,←hv];rfl
   ·rintro t _ ⟨rfl,d,c⟩
    obtain⟨b,a,hv⟩:=lm (s:=s) (i:=2) (by omega);refine⟨b,by decide,a,by decide,p _ _ ⟨rfl,by omega,?_⟩⟩
    rw[←c,←hv];rfl
  ·rintro t _ ⟨rfl,d,c⟩
   obtain⟨b,a,hv⟩:=lm (s:=s) (i:=1) (by omega);refine⟨b,by decide,a,by decide,o _ _ ⟨rfl,by omega,?_⟩⟩
   rw[←c,←hv];rfl
 ·rintro t _ ⟨rfl,d,c⟩
  obtain⟨b,a,hv⟩:=lm (s:=s) (i:=0) (by omega);refine⟨b,by decide,a,?_⟩
  unfold q9 at g;rw[←c]at g;rw[←hv];exact g
end Go.Proofs
namespace Go.Proofs
open Go.Lift
def sB(m:Int)(s:Q4):Q4:=
 let r:=ix 2 (s.1,s.2.1,s.2.2.1,de s.2.2.2 m)
 (de r.1 m,r.2)
theorem yX{m:Int}{h:ac}{b:Nat}{t:TypeId}{s:Q4}(d:h[b]? =some (.cells (q4 s) t (0,0))) {K:Unit→ac→Prop}
  (k:∀h',h'[b]? =some (.cells (q4 (sB m s)) t (0,0))→Upd (· =b) h h'→K () h'):HC PG gt [.pointer (some ⟨b,0,none⟩),.int .u64 m] [] K h:=by
 refine qO _ _ ?_;unfold l6 dT gg c5 mp;have c:∀{h:ac} {s:Q4} {i:Nat},h[b]? =some (.cells (q4 s) t (0,0))→aP h ⟨b,0+i,none⟩=(q4 s)[i]?:=fun d=>by rw[ar];exact aH d
 have w:∀{h:ac} {s:Q4} {i:Nat},h[b]? =some (.cells (q4 s) t (0,0))→i<4→Wr h ⟨b,0+i,none⟩:=fun d q=>by rw[ar];exact fq d q
 simp only[show((0:Int)).toNat*1=0 from rfl,show((3:Int)).toNat*1=3 from rfl]
 refine⟨_,rfl,by decide,_,c (i:=3) d,_,rfl,by decide,w (i:=3) d (by decide),jb (s':=(s.1,s.2.1,s.2.2.1,de s.2.2.2 m)) d rfl fun u e g=>?_⟩
 refine uw (n:=2) (by omega) e fun x a j=>?_
 have p:sB m s=(de (ix 2 (s.1,s.2.1,s.2.2.1,de s.2.2.2 m)).1 m,(ix 2 (s.1,s.2.1,s.2.2.1,de s.2.2.2 m)).2):=by unfold sB;rfl
 rw[p]at k;generalize ix 2 (s.1,s.2.1,s.2.2.1,de s.2.2.2 m)=r at a k;refine⟨_,rfl,by decide,_,c (i:=0) a,_,rfl,by decide,w (i:=0) a (by decide),jb (s':=(de r.1 m,r.2)) a rfl fun v o f=>?_⟩
 exact k _ o (g.tr (j.tr f))
def sF:Nat→ByteArray→Q4→ByteArray×Q4
 |0,s,q=>(s,q)
 |n+1,s,q=>if 8≤s.size then sF n (s.extract 8 s.size) (sB (q9 (s.extract 0 8)) q)else(s,q)
def En(r:Q4):Int:=de (de (de r.1 r.2.1) r.2.2.1) r.2.2.2
def Em(q:Q4):Int:=En (ix 4 (q.1,q.2.1,de q.2.2.1 255,q.2.2.2))
def EG(n:Nat)(g:ByteArray×Q4):Int:=Em (sB (A5 (q9 g.1) (Ev (n:Int) 56)) g.2)
def Cj(k0 k1:Int)(s:ByteArray):Int:=
 EG s.size (sF s.size s (de k0 8317987319222330741,de k1 7237128888997146477,de k0 7816392313619706465,de k1 8387220255154660723))
theorem CD{a:ac}{b:Nat}{t:TypeId}{r:Q4}(f:a[b]? =some (.cells (q4 r) t (0,0))) {K:Int→Prop} (g:K (En r)):
  (((0:Int)≤(0:Int)∧(0:Int)<((4:Nat):Int))∧
   ∃v30:Int,aP a (adr ⟨b,0,none⟩ ((0:Int).toNat*1))=some (.int .u64 v30)∧
   (((0:Int)≤(1:Int)∧(1:Int)<((4:Nat):Int))∧
    ∃v31:Int,aP a (adr ⟨b,0,none⟩ ((1:Int).toNat*1))=some (.int .u64 v31)∧
    Bd (IntKind.wrap .u64 (ad (IntKind.bits .u64) v30^^^ad (IntKind.bits .u64) v31).toNat:Int) (fun n32=>
     (((0:Int)≤(2:Int)∧(2:Int)<((4:Nat):Int))∧
      ∃v33:Int,aP a (adr ⟨b,0,none⟩ ((2:Int).toNat*1))=some (.int .u64 v33)∧
      Bd (IntKind.wrap .u64 (ad (IntKind.bits .u64) n32^^^ad (IntKind.bits .u64) v33).toNat:Int) (fun e=>
       (((0:Int)≤(3:Int)∧(3:Int)<((4:Nat):Int))∧
        ∃v35:Int,aP a (adr ⟨b,0,none⟩ ((3:Int).toNat*1))=some (.int .u64 v35)∧
        Bd (IntKind.wrap .u64 (ad (IntKind.bits .u64) e^^^ad (IntKind.bits .u64) v35).toNat:Int) (fun d=>
         K d))))))):=by
 have c:∀{i:Nat},aP a ⟨b,0+i,none⟩=(q4 r)[i]?:=by intro i;rw[ar];exact aH f
 exact⟨by decide,_,c (i:=0),by decide,_,c (i:=1),by decide,_,c (i:=2),by decide,_,c (i:=3),g⟩
theorem CC{a:ac}{b:Nat}{t:TypeId}{q:Q4}(e:a[b]? =some (.cells (q4 q) t (0,0))) {K:Unit→ac→Prop}
  (o:∀h',h'[b]? =some (.cells (q4 (ix 4 (q.1,q.2.1,de q.2.2.1 255,q.2.2.2))) t (0,0))→Upd (· =b) a h'→K () h'):
  (((0:Int)≤(2:Int)∧(2:Int)<((4:Nat):Int))∧
   ∃v25:Int,aP a (adr ⟨b,0,none⟩ ((2:Int).toNat*1))=some (.int .u64 v25)∧
   Bd (IntKind.wrap .u64 (ad (IntKind.bits .u64) v25^^^ad (IntKind.bits .u64) 255).toNat:Int) (fun f=>
    (((0:Int)≤(2:Int)∧(2:Int)<((4:Nat):Int))∧
     (Wr a (adr ⟨b,0,none⟩ ((2:Int).toNat*1))∧
      At (hset a (adr ⟨b,0,none⟩ ((2:Int).toNat*1)) (.int .u64 f)) (fun m=>
       HC PG ee [.pointer (some ⟨b,0,none⟩),.int .i64 4] [] K m))))):=by
 have c:∀{i:Nat},aP a ⟨b,0+i,none⟩=(q4 q)[i]?:=by intro i;rw[ar];exact aH e
 refine⟨by decide,_,c (i:=2),by decide,by rw[show((2:Int)).toNat*1=2 from rfl,aX];exact fq e (by simp[q4]),?_⟩
 refine jb (s':=(q.1,q.2.1,de q.2.2.1 255,q.2.2.2)) e rfl fun s j g=>?_
 exact uw (n:=4) (by omega) j fun p k d=>o p k (g.tr d)
theorem bK{h:ac}{k:ac→Prop}(a:k h):At h k:=a
theorem Db{k0 k1:Int}{s:ByteArray}{h:ac}{K:Int→ac→Prop}(C:∀p,Upd No h p→K (Cj k0 k1 s) p):HC PG qB [.agg #[.int .u64 k0,.int .u64 k1],.string s] [.c (.int .u64)] K h:=by
 refine Ar (k0,k1) s ?_;unfold uS dT gg nv aj c5 mp Ec D0 D5 Cc;have u:=Upd.hnew No h [.int .u64 k0,.int .u64 k1] lW;have b1:=cf h [.int .u64 k0,.int .u64 k1] lW;have G:=je h [.int .u64 k0,.int .u64 k1] lW;refine bK ?_;simp only[dK h];generalize hnew h [.int .u64 k0,.int .u64 k1] lW=h1 at u b1 G;refine⟨k0,by rw[aX,aH b1];rfl,k1,by rw[aX,aH b1];rfl,k0,by rw[aX,aH b1];rfl,k1,by rw[aX,aH b1];rfl,?_⟩
 have J:=Upd.hnew No h1 [.int .u64 0,.int .u64 0,.int .u64 0,.int .u64 0] eJ;have b2:=cf h1 [.int .u64 0,.int .u64 0,.int .u64 0,.int .u64 0] eJ;simp only[dK h1];simp only[Bd];refine bK ?_;refine⟨.inr ⟨_,rfl,fun j N=>by rw[aX];exact fq b2 (by simp at N⊢;omega)⟩,?_⟩
 refine bK ?_;rw[eG _ _ 0 0 _ b2 (by simp)];have b3:=gp (o:=.cells (q4 (de k0 8317987319222330741,de k1 7237128888997146477,de k0 7816392313619706465,de k1 8387220255154660723)) eJ (0,0)) b2;have H:Upd No h _:=u.tr (J.trans (M':=(· =h1.size)) (Upd.set (hnew h1 [.int .u64 0,.int .u64 0,.int .u64 0,.int .u64 0] eJ) (.cells (q4 (de k0 8317987319222330741,de k1 7237128888997146477,de k0 7816392313619706465,de k1 8387220255154660723)) eJ (0,0)) rfl) fun b d=>.inr (Nat.le_of_eq d.symm))
 refine LoopP.ghost (fun(g:Nat×Q4) (a:ByteArray) p=>a.size≤g.1∧p[h1.size]? =some (.cells (q4 g.2) eJ (0,0))∧Upd No h p∧sF g.1 a g.2=sF s.size s (de k0 8317987319222330741,de k1 7237128888997146477,de k0 7816392313619706465,de k1 8387220255154660723)) (fun g=>g.1) (s.size,_)
  ⟨av _,b3,H,rfl⟩ ?_
 rintro I ⟨n,q⟩ a p ⟨O,d,B,t⟩ M;simp only at O d t;have k:∀b,b=h1.size→No b∨h.size≤b:=fun b d=>.inr (by omega)
 refine bi (fun v=>?_) fun x=>?_
 ·have v:8≤a.size:=by omega
  cases n with
  |zero=>omega
  |succ n=>
   refine⟨by omega,yS (by rw[ByteArray.size_extract];show min 8 _-0≤8;omega) (yX d fun L e f=>⟨by omega,?_⟩)⟩
   have F:((8:Int)).toNat=8:=rfl;rw[F]at e⊢;refine M (n,sB (q9 (a.extract 0 8)) q) _ _ ⟨by simp only[ByteArray.size_extract];omega,e,B.trans f k,?_⟩ (by simp only;omega);rw[←t];simp only[sF,if_pos v]
 ·have x:a.size<8:=by omega
  have t:(a,q)=sF s.size s (de k0 8317987319222330741,de k1 7237128888997146477,de k0 7816392313619706465,de k1 8387220255154660723):=by
   rw[←t];cases n with
   |zero=>rfl
   |succ n=>simp only[sF,if_neg (show ¬8≤a.size by omega)]
  have c:∀{h:ac} {s:Q4} {i:Nat},h[h1.size]? =some (.cells (q4 s) eJ (0,0))→aP h ⟨h1.size,0+i,none⟩=(q4 s)[i]?:=fun d=>by rw[ar];exact aH d
  have w:∀{h:ac} {s:Q4} {i:Nat},h[h1.size]? =some (.cells (q4 s) eJ (0,0))→i<4→Wr h ⟨h1.size,0+i,none⟩:=fun d E=>by rw[ar];exact fq d E
  have A:Cj k0 k1 s=Em (sB (A5 (q9 a) (Ev (s.size:Int) 56)) q):=by unfold Cj;rw[←t];rfl
  rw[A]at C;refine yS (by omega) ⟨by decide,yX (m:=A5 (q9 a) (Ev (s.size:Int) 56)) d fun L e f=>?_⟩
  refine CC e fun D z y=>CD (K:=fun n=>K n D) z ?_
  exact C D ((B.trans f k).trans y k)
structure Hs where
 k0:Int
 k1:Int
 mask:Int
def jY(h:Hs)(s:ByteArray):Int:=BW (Cj h.k0 h.k1 s) h.mask
theorem vx{x:Hs}{s:ByteArray}{h:ac}{K:Int→ac→Prop}(c:∀h',Upd No h h'→K (jY x s) h'):HC PG eL [.agg #[.int .u64 x.k0,.int .u64 x.k1,.int .u64 x.mask],.string s] [.c (.int .u64)] K h:=by
 refine pT (x.k0,x.k1,x.mask) s ?_;unfold lq aj cT CW D7;have a:=Upd.hnew No h [.int .u64 x.k0,.int .u64 x.k1,.int .u64 x.mask] ft;have b1:=cf h [.int .u64 x.k0,.int .u64 x.k1,.int .u64 x.mask] ft;simp only[At,dK h];generalize hnew h [.int .u64 x.k0,.int .u64 x.k1,.int .u64 x.mask] ft=h1 at a b1;refine⟨x.k0,by rw[aX,aX,aH b1];rfl,x.k1,by rw[aX,aX,aH b1];rfl,x.mask,by rw[aX,aH b1];rfl,?_⟩
 refine Db fun d b=>⟨by rw[aX,aH (b.get0 b1)];rfl,c _ (a.tr b)⟩
theorem wL(x:Hs)(s:ByteArray):0≤jY x s∧jY x s<18446744073709551616:=xp _
end Go.Proofs
namespace Go.Proofs
open Go Go.Lift
abbrev hH(x:ByteArray×ByteArray):List Value:= [.string x.1,.string x.2]
theorem iz(x:ByteArray×ByteArray):(hH x).length=2∧0<2:=⟨rfl,by omega⟩
theorem nL:∀xs:List (ByteArray×ByteArray),aY (xs.flatMap hH)=true
 | []=>rfl
 |x::xs=>by rw[ba];exact iB rfl (nL xs)
theorem vi{h:ac}{a b o c e d cb:Nat}{f cw:Array Value}{g tb:TypeId}(hv:h[a]? =some (.cells f g (0,0))) (j:h[b]? =some (.cells cw tb (0,0))) (m:a≠b) (n:cw.size≠0) {K:Bool→ac→Prop} (k:K false h):
  HC PG dU [.slice (some ⟨a,0,none⟩) c e,.slice (some ⟨b,o,none⟩) d cb] [.c .bool] K h:=by
 refine⟨fun w i=>.inr ⟨.bool false,w,?_,Tame.refl w,false,rfl,i▸k⟩⟩
 subst i;rw[j9];have:=Lib.run_overlaps_apart (P:=PG) w fS mq ah (by kernel_rfl) (aO PG ah) (jD (by kernel_rfl)) ⟨a,0,none⟩ ⟨b,o,none⟩ c e d cb m g tb f.size cw.size
  (by simp[World.shape?,hv]) (by simp[World.shape?,j]) n (by simp[World.frozen?,hv]) (by simp[World.frozen?,hv])
 rw[show([Value.slice (some ⟨a,0,none⟩) c e,Value.slice (some ⟨b,o,none⟩) d cb]:List Value).toArray= #[.slice (some ⟨a,0,none⟩) c e,.slice (some ⟨b,o,none⟩) d cb]from rfl,this]
 rfl
set_option maxRecDepth 4000 in
theorem yg{M:Nat→Prop}{h:ac}{s:SliceV}{xs:List (ByteArray×ByteArray)}(V:OwnS hH 2 ah M h s xs){k:Nat}(hkl:k≤xs.length)(hn:(xs.length+1)*32≤140737488355328){x:ByteArray×ByteArray}{m:Nat}(hv:h[m]? =some (.cells (hH x).toArray ah (0,0)))
  (hvM:¬M m) (U:∀b,h.size≤b→M b) {K:SliceV→ac→Prop} (hK:∀s' S,OwnS hH 2 ah M S s' (xs.take k++x::xs.drop k)→Upd M h S→K s' S):
  HC PG bm [.slice s.a s.len s.cap,.int .i64 k,.slice (some ⟨m,0,none⟩) 1 1] [.c .slice] K h:=by
 refine gz s k ⟨some ⟨m,0,none⟩,1,1⟩ ?_;unfold dM r9;have u:=V.len;have hcap:=V.cap;have Q:SRow h (some ⟨m,0,none⟩) (1*2) (hH x):=⟨rfl,.inr ⟨_,rfl,mw hv fun i v hi=>by simpa using hi⟩⟩
 refine⟨by omega,al.2 ?_⟩;refine CondP.intro (fun e=>?_) fun e=>?_
 ·have e:k=xs.length:=by have:=of_decide_eq_true (by simpa using e:decide ((k:Int)=(s.len:Int))=true);omega
  subst e;refine⟨_,Q,AppP.own (ys:= [x]) V rfl (by simp) rfl rfl (by omega) (by simp;omega) (U _ (av _)) fun s' S ho hu=>hK s' S ?_ hu⟩
  rw[cG,List.drop_length];exact ho
 have hlt:k<xs.length:=by
  rcases bV k xs.length with h|h
  ·exact h
  ·have:((k:Int)==(s.len:Int))=true:=by rw[beq_iff_eq];omega
   rw[this]at e;cases e
 rcases V.blk with h0|⟨b,d,ha,p,hc,hr⟩
 ·omega
 have g:((xs.take k).flatMap hH).length=k*2:=by rw[gw iz,aE,aL hkl]
 have t:((xs.drop k).flatMap hH).length=(xs.length-k)*2:=by rw[gw iz,aB]
 have J:m≠b:=fun e=>hvM (e▸p)
 rw[qE (f:=hH) xs k]at hc;have a:(xs.take k++x::xs.drop k).flatMap hH=(xs.take k).flatMap hH++(hH x++(xs.drop k).flatMap hH):=by rw[bh,ba]
 have j:=nL (xs.drop k);have c:(hH x).length=2:=rfl;have C:aY (hH x)=true:=rfl;generalize hAe:(xs.take k).flatMap hH=A at g hc a;generalize hBe:(xs.drop k).flatMap hH=B at t hc a j;generalize hH x=X at Q c hv a C;rw[ha];have w1:IntKind.wrap .i64 ((xs.length:Int)+((1:Nat):Int))=((xs.length+1:Nat):Int):=by rw[nR (by omega)];omega
 have w2:IntKind.wrap .i64 ((k:Int)+((1:Nat):Int))=((k+1:Nat):Int):=by rw[nR (by omega)];omega
 have w3:IntKind.wrap .i64 (((xs.length+1:Nat):Int)-(k:Int))=((xs.length+1-k:Nat):Int):=by rw[nR (by omega)];omega
 simp only[w1,w2,w3,aK,u];refine bi (fun hgt=>?_) fun hle=>?_
 ·
  have L:s.cap=xs.length:=by omega
  refine Join.plain ⟨by omega,⟨by omega,by omega,by omega,by omega⟩,fun hin=>?_,fun E=>?_⟩
  ·omega
  ·refine⟨A,_,?_,rfl,by omega,Go.growslice_fits E (by omega),fun D z=>?_⟩
   ·rw[sub_zero]
    exact ge hc (by rw[g];omega) (by simp only[cP,c7];rw[ay,←g,cJ (av _),cG])
   ·simp only[aK]at z⊢
    have T:=Upd.hnew No h (A++cd (xs.length+1-k) [.string (⟨#[]⟩:ByteArray),.string (⟨#[]⟩:ByteArray)]++cd (D-(k-0+(xs.length+1-k))) [.string (⟨#[]⟩:ByteArray),.string (⟨#[]⟩:ByteArray)]) ah;have bn:=cf h (A++cd (xs.length+1-k) [.string (⟨#[]⟩:ByteArray),.string (⟨#[]⟩:ByteArray)]++cd (D-(k-0+(xs.length+1-k))) [.string (⟨#[]⟩:ByteArray),.string (⟨#[]⟩:ByteArray)]) ah
    have w:(cd (xs.length+1-k) [.string (⟨#[]⟩:ByteArray),.string (⟨#[]⟩:ByteArray)]).length=(xs.length+1-k)*2:=gP _ _;have hz2:(cd (D-(k-0+(xs.length+1-k))) [.string (⟨#[]⟩:ByteArray),.string (⟨#[]⟩:ByteArray)]).length=(D-(k-0+(xs.length+1-k)))*2:=gP _ _;have o:k-0+(xs.length+1-k)=xs.length+1:=by omega
    rw[dK];have hsz:h.size≠m:=fun e=>by have:=aW hv;omega
    have P:h.size≠b:=fun e=>by have:=aW hc;omega
    have G:=T.get0 hc;have H:=T.get0 hv;generalize hnew h _ ah=h9 at T bn G H;rw[o]at z hz2⊢;have Z:bU 1 (xs.length+1-k)=1:=aL (by omega);have Y:bU (xs.length-k) (xs.length+1-(k+1))=xs.length-k:=aL (by omega);rw[Z];have xr9:SRow h9 (some ⟨m,0,none⟩) (1*2) X:=ge H (by rw[c]) (by rw[cP,aV];rw[c];omega)
    refine⟨by omega,?_⟩;rw[fu (by omega)];refine fH xr9 C bn (by simp only[ae,g,w];omega) fun h11 N n=>⟨by omega,?_⟩
    simp only[Bd];rw[fu (by omega),fu (by omega),Y];refine⟨by omega,?_⟩;have y:=n.get G (fun e=>P e.symm)
    have br:SRow h11 (some ⟨b,0+k*2,none⟩) ((xs.length-k)*2) B:=ge y t (by
     rw[ar,ay,←g,gi,←t,fg])
    refine fH br j N ?_ fun h16 F O=>?_
    ·simp only[ae,aE,aB,g,w,c];omega
    ·refine hK _ _ ⟨by simp;omega,iz,z,.inr ⟨h.size,cd (D-(xs.length+1)) [.string (⟨#[]⟩:ByteArray),.string (⟨#[]⟩:ByteArray)],rfl,U _ (av _),?_,by rw[gP];rfl⟩⟩ ((T.wide.trans (M':=(· =h.size)) n fun b p=>.inl (p▸U _ (av _))).trans (M':=(· =h.size)) O fun b p=>.inl (p▸U _ (av _)))
     rw[F,a];have:=vt (A:=A) (X:=X) (B:=B) (Z1:=cd (xs.length+1-k) [.string (⟨#[]⟩:ByteArray),.string (⟨#[]⟩:ByteArray)]) (Z2:=cd (D-(xs.length+1)) [.string (⟨#[]⟩:ByteArray),.string (⟨#[]⟩:ByteArray)]) (r:=(xs.length-k)*2) g c (by rw[w,←dk];congr 1;omega);rw[o,←this];simp only[ar,dk,jK]
 ·have L:xs.length+1≤s.cap:=by omega
  refine⟨by omega,?_⟩;simp only[Bd,c7];rw[sub_zero,fu (show s.cap≠k+1 by omega),fu (show s.cap≠k by omega)]
  refine⟨by omega,?_⟩;have W:2≤d.length:=by rw[hr];exact iU _ (by omega)
  refine vi hv hc J (by rw[bG,ae];omega) ?_;refine ao.2 ⟨by omega,by omega,?_⟩
  have Z:bU 1 (xs.length+1-k)=1:=aL (by omega);have Y:bU (xs.length+1-k) (xs.length+1-(k+1))=xs.length-k:=by
   rw[show xs.length+1-(k+1)=xs.length-k by omega];exact jp (by omega)
  rw[Y];have br:SRow h (some ⟨b,0+k*2,none⟩) ((xs.length-k)*2) B:=ge hc t (by
   rw[ar,ay,←g,gi,←t,fg])
  refine fH br j hc (by simp only[ae,g,t];omega) fun h1 hb1 I=>⟨by omega,?_⟩
  rw[Z];have xr1:SRow h1 (some ⟨m,0,none⟩) (1*2) X:=ge (I.get hv J) (by rw[c]) (by rw[cP,aV];rw[c];omega);refine fH xr1 C hb1 (by simp only[ae,aE,aB,g,t];omega) fun h2 hb2 hu2=>?_
  refine hK _ _ ⟨by simp;omega,iz,L,.inr ⟨b,d.drop 2,rfl,p,?_,?_⟩⟩ ((I.mono fun _ e=>.inl (e▸p)).tr (hu2.mono fun _ e=>.inl (e▸p)))
  ·rw[hb2,a]
   have:=yi (A:=A) (X:=X) (B:=B) (R:=d) (q:=2) (r:=(xs.length-k)*2) g t W;rw[←this];simp only[ar,dk,jK]
  ·rw[aB,hr]
   simp only;rw[u];omega
abbrev j4(x:Option Addr):List Value:= [.pointer x]
theorem kj(x:Option Addr):(j4 x).length=1∧0<1:=⟨rfl,by omega⟩
theorem rU:∀xs:List (Option Addr),aY (xs.flatMap j4)=true
 | []=>rfl
 |x::xs=>by rw[ba];exact iB rfl (rU xs)
theorem vj{h:ac}{a b o c e d cb:Nat}{f cw:Array Value}{g tb:TypeId}(hv:h[a]? =some (.cells f g (0,0))) (j:h[b]? =some (.cells cw tb (0,0))) (m:a≠b) (n:cw.size≠0) {K:Bool→ac→Prop} (k:K false h):
  HC PG dF [.slice (some ⟨a,0,none⟩) c e,.slice (some ⟨b,o,none⟩) d cb] [.c .bool] K h:=by
 refine⟨fun w i=>.inr ⟨.bool false,w,?_,Tame.refl w,false,rfl,i▸k⟩⟩
 subst i;rw[jH];have:=Lib.run_overlaps_apart (P:=PG) w jM mq aJ (by kernel_rfl) (aO PG aJ) (jD (by kernel_rfl)) ⟨a,0,none⟩ ⟨b,o,none⟩ c e d cb m g tb f.size cw.size
  (by simp[World.shape?,hv]) (by simp[World.shape?,j]) n (by simp[World.frozen?,hv]) (by simp[World.frozen?,hv])
 rw[show([Value.slice (some ⟨a,0,none⟩) c e,Value.slice (some ⟨b,o,none⟩) d cb]:List Value).toArray= #[.slice (some ⟨a,0,none⟩) c e,.slice (some ⟨b,o,none⟩) d cb]from rfl,this]
 rfl
set_option maxRecDepth 4000 in
theorem yh{M:Nat→Prop}{h:ac}{s:SliceV}{xs:List (Option Addr)}(V:OwnS j4 1 aJ M h s xs){k:Nat}(hkl:k≤xs.length)(hn:(xs.length+1)*8≤140737488355328){x:Option Addr}{m:Nat}(hv:h[m]? =some (.cells (j4 x).toArray aJ (0,0)))
  (hvM:¬M m) (U:∀b,h.size≤b→M b) {K:SliceV→ac→Prop} (hK:∀s' S,OwnS j4 1 aJ M S s' (xs.take k++x::xs.drop k)→Upd M h S→K s' S):
  HC PG bf [.slice s.a s.len s.cap,.int .i64 k,.slice (some ⟨m,0,none⟩) 1 1] [.c .slice] K h:=by
 refine fI s k ⟨some ⟨m,0,none⟩,1,1⟩ ?_;unfold dh;have u:=V.len;have hcap:=V.cap;have Q:SRow h (some ⟨m,0,none⟩) (1*1) (j4 x):=⟨rfl,.inr ⟨_,rfl,mw hv fun i v hi=>by simpa using hi⟩⟩
 refine⟨by omega,al.2 ?_⟩;refine CondP.intro (fun e=>?_) fun e=>?_
 ·have e:k=xs.length:=by have:=of_decide_eq_true (by simpa using e:decide ((k:Int)=(s.len:Int))=true);omega
  subst e;refine⟨_,Q,AppP.own (ys:= [x]) V rfl (by simp) rfl rfl (by omega) (by simp;omega) (U _ (av _)) fun s' S ho hu=>hK s' S ?_ hu⟩
  rw[cG,List.drop_length];exact ho
 have hlt:k<xs.length:=by
  rcases bV k xs.length with h|h
  ·exact h
  ·have:((k:Int)==(s.len:Int))=true:=by rw[beq_iff_eq];omega
   rw[this]at e;cases e
 rcases V.blk with h0|⟨b,d,ha,p,hc,hr⟩
 ·omega
 have g:((xs.take k).flatMap j4).length=k*1:=by rw[gw kj,aE,aL hkl]
 have t:((xs.drop k).flatMap j4).length=(xs.length-k)*1:=by rw[gw kj,aB]
 have J:m≠b:=fun e=>hvM (e▸p)
 rw[qE (f:=j4) xs k]at hc;have a:(xs.take k++x::xs.drop k).flatMap j4=(xs.take k).flatMap j4++(j4 x++(xs.drop k).flatMap j4):=by rw[bh,ba]
 have j:=rU (xs.drop k);have c:(j4 x).length=1:=rfl;have C:aY (j4 x)=true:=rfl;generalize hAe:(xs.take k).flatMap j4=A at g hc a;generalize hBe:(xs.drop k).flatMap j4=B at t hc a j;generalize j4 x=X at Q c hv a C;rw[ha];have w1:IntKind.wrap .i64 ((xs.length:Int)+((1:Nat):Int))=((xs.length+1:Nat):Int):=by rw[nR (by omega)];omega
 have w2:IntKind.wrap .i64 ((k:Int)+((1:Nat):Int))=((k+1:Nat):Int):=by rw[nR (by omega)];omega
 have w3:IntKind.wrap .i64 (((xs.length+1:Nat):Int)-(k:Int))=((xs.length+1-k:Nat):Int):=by rw[nR (by omega)];omega
 simp only[w1,w2,w3,aK,u];refine bi (fun hgt=>?_) fun hle=>?_
 ·
  have L:s.cap=xs.length:=by omega
  refine Join.plain ⟨by omega,⟨by omega,by omega,by omega,by omega⟩,fun hin=>?_,fun E=>?_⟩
  ·omega
  ·refine⟨A,_,?_,rfl,by omega,Go.growslice_fits E (by omega),fun D z=>?_⟩
   ·rw[sub_zero]
    exact ge hc (by rw[g];omega) (by simp only[cP,c7];rw[ay,←g,cJ (av _),cG])
   ·simp only[aK]at z⊢
    have T:=Upd.hnew No h (A++cd (xs.length+1-k) [.pointer none]++cd (D-(k-0+(xs.length+1-k))) [.pointer none]) aJ;have bn:=cf h (A++cd (xs.length+1-k) [.pointer none]++cd (D-(k-0+(xs.length+1-k))) [.pointer none]) aJ;have w:(cd (xs.length+1-k) [.pointer none]).length=(xs.length+1-k)*1:=gP _ _;have hz2:(cd (D-(k-0+(xs.length+1-k))) [.pointer none]).length=(D-(k-0+(xs.length+1-k)))*1:=gP _ _
    have o:k-0+(xs.length+1-k)=xs.length+1:=by omega
    rw[dK];have hsz:h.size≠m:=fun e=>by have:=aW hv;omega
    have P:h.size≠b:=fun e=>by have:=aW hc;omega
    have G:=T.get0 hc;have H:=T.get0 hv;generalize hnew h _ aJ=h9 at T bn G H;rw[o]at z hz2⊢;have Z:bU 1 (xs.length+1-k)=1:=aL (by omega);have Y:bU (xs.length-k) (xs.length+1-(k+1))=xs.length-k:=aL (by omega);rw[Z];have xr9:SRow h9 (some ⟨m,0,none⟩) (1*1) X:=ge H (by rw[c]) (by rw[cP,aV];rw[c];omega)
    refine⟨by omega,?_⟩;rw[fu (by omega)];refine fH xr9 C bn (by simp only[ae,g,w];omega) fun h11 N n=>⟨by omega,?_⟩
    simp only[Bd];rw[fu (by omega),fu (by omega),Y];refine⟨by omega,?_⟩;have y:=n.get G (fun e=>P e.symm)
    have br:SRow h11 (some ⟨b,0+k*1,none⟩) ((xs.length-k)*1) B:=ge y t (by
     rw[ar,ay,←g,gi,←t,fg])
    refine fH br j N ?_ fun h16 F O=>?_
    ·simp only[ae,aE,aB,g,w,c];omega
    ·refine hK _ _ ⟨by simp;omega,kj,z,.inr ⟨h.size,cd (D-(xs.length+1)) [.pointer none],rfl,U _ (av _),?_,by rw[gP];rfl⟩⟩ ((T.wide.trans (M':=(· =h.size)) n fun b p=>.inl (p▸U _ (av _))).trans (M':=(· =h.size)) O fun b p=>.inl (p▸U _ (av _)))
     rw[F,a];have:=vt (A:=A) (X:=X) (B:=B) (Z1:=cd (xs.length+1-k) [.pointer none]) (Z2:=cd (D-(xs.length+1)) [.pointer none]) (r:=(xs.length-k)*1) g c (by rw[w,←dk];congr 1;omega);rw[o,←this];simp only[ar,dk,jK]
 ·have L:xs.length+1≤s.cap:=by omega
  refine⟨by omega,?_⟩;simp only[Bd,c7];rw[sub_zero,fu (show s.cap≠k+1 by omega),fu (show s.cap≠k by omega)]
  refine⟨by omega,?_⟩;have W:1≤d.length:=by rw[hr];exact iU _ (by omega)
  refine vj hv hc J (by rw[bG,ae];omega) ?_;refine ao.2 ⟨by omega,by omega,?_⟩
  have Z:bU 1 (xs.length+1-k)=1:=aL (by omega);have Y:bU (xs.length+1-k) (xs.length+1-(k+1))=xs.length-k:=by
   rw[show xs.length+1-(k+1)=xs.length-k by omega];exact jp (by omega)
  rw[Y];have br:SRow h (some ⟨b,0+k*1,none⟩) ((xs.length-k)*1) B:=ge hc t (by
   rw[ar,ay,←g,gi,←t,fg])
  refine fH br j hc (by simp only[ae,g,t];omega) fun h1 hb1 I=>⟨by omega,?_⟩
  rw[Z];have xr1:SRow h1 (some ⟨m,0,none⟩) (1*1) X:=ge (I.get hv J) (by rw[c]) (by rw[cP,aV];rw[c];omega);refine fH xr1 C hb1 (by simp only[ae,aE,aB,g,t];omega) fun h2 hb2 hu2=>?_
  refine hK _ _ ⟨by simp;omega,kj,L,.inr ⟨b,d.drop 1,rfl,p,?_,?_⟩⟩ ((I.mono fun _ e=>.inl (e▸p)).tr (hu2.mono fun _ e=>.inl (e▸p)))
  ·rw[hb2,a]
   have:=yi (A:=A) (X:=X) (B:=B) (R:=d) (q:=1) (r:=(xs.length-k)*1) g t W;rw[←this];simp only[ar,dk,jK]
  ·rw[aB,hr]
   simp only;rw[u];omega
abbrev kR(x:Option Addr):List Value:= [.pointer x]
theorem lL(x:Option Addr):(kR x).length=1∧0<1:=⟨rfl,by omega⟩
theorem vl:∀xs:List (Option Addr),aY (xs.flatMap kR)=true
 | []=>rfl
 |x::xs=>by rw[ba];exact iB rfl (vl xs)
theorem vh{h:ac}{a b o c e d cb:Nat}{f cw:Array Value}{g tb:TypeId}(hv:h[a]? =some (.cells f g (0,0))) (j:h[b]? =some (.cells cw tb (0,0))) (m:a≠b) (n:cw.size≠0) {K:Bool→ac→Prop} (k:K false h):
  HC PG dy [.slice (some ⟨a,0,none⟩) c e,.slice (some ⟨b,o,none⟩) d cb] [.c .bool] K h:=by
 refine⟨fun w i=>.inr ⟨.bool false,w,?_,Tame.refl w,false,rfl,i▸k⟩⟩
 subst i;rw[jm];have:=Lib.run_overlaps_apart (P:=PG) w i2 mq ax (by kernel_rfl) (aO PG ax) (jD (by kernel_rfl)) ⟨a,0,none⟩ ⟨b,o,none⟩ c e d cb m g tb f.size cw.size
  (by simp[World.shape?,hv]) (by simp[World.shape?,j]) n (by simp[World.frozen?,hv]) (by simp[World.frozen?,hv])
 rw[show([Value.slice (some ⟨a,0,none⟩) c e,Value.slice (some ⟨b,o,none⟩) d cb]:List Value).toArray= #[.slice (some ⟨a,0,none⟩) c e,.slice (some ⟨b,o,none⟩) d cb]from rfl,this]
 rfl
set_option maxRecDepth 4000 in
theorem yf{M:Nat→Prop}{h:ac}{s:SliceV}{xs:List (Option Addr)}(V:OwnS kR 1 ax M h s xs){k:Nat}(hkl:k≤xs.length)(hn:(xs.length+1)*8≤140737488355328){x:Option Addr}{m:Nat}(hv:h[m]? =some (.cells (kR x).toArray ax (0,0)))
  (hvM:¬M m) (U:∀b,h.size≤b→M b) {K:SliceV→ac→Prop} (hK:∀s' S,OwnS kR 1 ax M S s' (xs.take k++x::xs.drop k)→Upd M h S→K s' S):
  HC PG ce [.slice s.a s.len s.cap,.int .i64 k,.slice (some ⟨m,0,none⟩) 1 1] [.c .slice] K h:=by
 refine fh s k ⟨some ⟨m,0,none⟩,1,1⟩ ?_;unfold cZ;have u:=V.len;have hcap:=V.cap;have Q:SRow h (some ⟨m,0,none⟩) (1*1) (kR x):=⟨rfl,.inr ⟨_,rfl,mw hv fun i v hi=>by simpa using hi⟩⟩
 refine⟨by omega,al.2 ?_⟩;refine CondP.intro (fun e=>?_) fun e=>?_
 ·have e:k=xs.length:=by have:=of_decide_eq_true (by simpa using e:decide ((k:Int)=(s.len:Int))=true);omega
  subst e;refine⟨_,Q,AppP.own (ys:= [x]) V rfl (by simp) rfl rfl (by omega) (by simp;omega) (U _ (av _)) fun s' S ho hu=>hK s' S ?_ hu⟩
  rw[cG,List.drop_length];exact ho
 have hlt:k<xs.length:=by
  rcases bV k xs.length with h|h
  ·exact h
  ·have:((k:Int)==(s.len:Int))=true:=by rw[beq_iff_eq];omega
   rw[this]at e;cases e
 rcases V.blk with h0|⟨b,d,ha,p,hc,hr⟩
 ·omega
 have g:((xs.take k).flatMap kR).length=k*1:=by rw[gw lL,aE,aL hkl]
 have t:((xs.drop k).flatMap kR).length=(xs.length-k)*1:=by rw[gw lL,aB]
 have J:m≠b:=fun e=>hvM (e▸p)
 rw[qE (f:=kR) xs k]at hc;have a:(xs.take k++x::xs.drop k).flatMap kR=(xs.take k).flatMap kR++(kR x++(xs.drop k).flatMap kR):=by rw[bh,ba]
 have j:=vl (xs.drop k);have c:(kR x).length=1:=rfl;have C:aY (kR x)=true:=rfl;generalize hAe:(xs.take k).flatMap kR=A at g hc a;generalize hBe:(xs.drop k).flatMap kR=B at t hc a j;generalize kR x=X at Q c hv a C;rw[ha];have w1:IntKind.wrap .i64 ((xs.length:Int)+((1:Nat):Int))=((xs.length+1:Nat):Int):=by rw[nR (by omega)];omega
 have w2:IntKind.wrap .i64 ((k:Int)+((1:Nat):Int))=((k+1:Nat):Int):=by rw[nR (by omega)];omega
 have w3:IntKind.wrap .i64 (((xs.length+1:Nat):Int)-(k:Int))=((xs.length+1-k:Nat):Int):=by rw[nR (by omega)];omega
 simp only[w1,w2,w3,aK,u];refine bi (fun hgt=>?_) fun hle=>?_
 ·
  have L:s.cap=xs.length:=by omega
  refine Join.plain ⟨by omega,⟨by omega,by omega,by omega,by omega⟩,fun hin=>?_,fun E=>?_⟩
  ·omega
  ·refine⟨A,_,?_,rfl,by omega,Go.growslice_fits E (by omega),fun D z=>?_⟩
   ·rw[sub_zero]
    exact ge hc (by rw[g];omega) (by simp only[cP,c7];rw[ay,←g,cJ (av _),cG])
   ·simp only[aK]at z⊢
    have T:=Upd.hnew No h (A++cd (xs.length+1-k) [.pointer none]++cd (D-(k-0+(xs.length+1-k))) [.pointer none]) ax;have bn:=cf h (A++cd (xs.length+1-k) [.pointer none]++cd (D-(k-0+(xs.length+1-k))) [.pointer none]) ax;have w:(cd (xs.length+1-k) [.pointer none]).length=(xs.length+1-k)*1:=gP _ _;have hz2:(cd (D-(k-0+(xs.length+1-k))) [.pointer none]).length=(D-(k-0+(xs.length+1-k)))*1:=gP _ _
    have o:k-0+(xs.length+1-k)=xs.length+1:=by omega
    rw[dK];have hsz:h.size≠m:=fun e=>by have:=aW hv;omega
    have P:h.size≠b:=fun e=>by have:=aW hc;omega
    have G:=T.get0 hc;have H:=T.get0 hv;generalize hnew h _ ax=h9 at T bn G H;rw[o]at z hz2⊢;have Z:bU 1 (xs.length+1-k)=1:=aL (by omega);have Y:bU (xs.length-k) (xs.length+1-(k+1))=xs.length-k:=aL (by omega);rw[Z];have xr9:SRow h9 (some ⟨m,0,none⟩) (1*1) X:=ge H (by rw[c]) (by rw[cP,aV];rw[c];omega)
    refine⟨by omega,?_⟩;rw[fu (by omega)];refine fH xr9 C bn (by simp only[ae,g,w];omega) fun h11 N n=>⟨by omega,?_⟩
    simp only[Bd];rw[fu (by omega),fu (by omega),Y];refine⟨by omega,?_⟩;have y:=n.get G (fun e=>P e.symm)
    have br:SRow h11 (some ⟨b,0+k*1,none⟩) ((xs.length-k)*1) B:=ge y t (by
     rw[ar,ay,←g,gi,←t,fg])
    refine fH br j N ?_ fun h16 F O=>?_
    ·simp only[ae,aE,aB,g,w,c];omega
    ·refine hK _ _ ⟨by simp;omega,lL,z,.inr ⟨h.size,cd (D-(xs.length+1)) [.pointer none],rfl,U _ (av _),?_,by rw[gP];rfl⟩⟩ ((T.wide.trans (M':=(· =h.size)) n fun b p=>.inl (p▸U _ (av _))).trans (M':=(· =h.size)) O fun b p=>.inl (p▸U _ (av _)))
     rw[F,a];have:=vt (A:=A) (X:=X) (B:=B) (Z1:=cd (xs.length+1-k) [.pointer none]) (Z2:=cd (D-(xs.length+1)) [.pointer none]) (r:=(xs.length-k)*1) g c (by rw[w,←dk];congr 1;omega);rw[o,←this];simp only[ar,dk,jK]
 ·have L:xs.length+1≤s.cap:=by omega
  refine⟨by omega,?_⟩;simp only[Bd,c7];rw[sub_zero,fu (show s.cap≠k+1 by omega),fu (show s.cap≠k by omega)]
  refine⟨by omega,?_⟩;have W:1≤d.length:=by rw[hr];exact iU _ (by omega)
  refine vh hv hc J (by rw[bG,ae];omega) ?_;refine ao.2 ⟨by omega,by omega,?_⟩
  have Z:bU 1 (xs.length+1-k)=1:=aL (by omega);have Y:bU (xs.length+1-k) (xs.length+1-(k+1))=xs.length-k:=by
   rw[show xs.length+1-(k+1)=xs.length-k by omega];exact jp (by omega)
  rw[Y];have br:SRow h (some ⟨b,0+k*1,none⟩) ((xs.length-k)*1) B:=ge hc t (by
   rw[ar,ay,←g,gi,←t,fg])
  refine fH br j hc (by simp only[ae,g,t];omega) fun h1 hb1 I=>⟨by omega,?_⟩
  rw[Z];have xr1:SRow h1 (some ⟨m,0,none⟩) (1*1) X:=ge (I.get hv J) (by rw[c]) (by rw[cP,aV];rw[c];omega);refine fH xr1 C hb1 (by simp only[ae,aE,aB,g,t];omega) fun h2 hb2 hu2=>?_
  refine hK _ _ ⟨by simp;omega,lL,L,.inr ⟨b,d.drop 1,rfl,p,?_,?_⟩⟩ ((I.mono fun _ e=>.inl (e▸p)).tr (hu2.mono fun _ e=>.inl (e▸p)))
  ·rw[hb2,a]
   have:=yi (A:=A) (X:=X) (B:=B) (R:=d) (q:=1) (r:=(xs.length-k)*1) g t W;rw[←this];simp only[ar,dk,jK]
  ·rw[aB,hr]
   simp only;rw[u];omega
end Go.Proofs
namespace Go.Proofs
open Go Go.Lift
theorem uQ{W:Nat→Prop}{h:ac}{s:SliceV}{xs:List (ByteArray×ByteArray)}(e:Sl hH 2 W h s xs)(o:xs.length*32≤140737488355328){K:SliceV→ac→Prop}
  (i:∀s' c,OwnS hH 2 ah (fun b=>h.size≤b) c s' xs→Upd No h c→K s' c):HC PG bT [.slice s.a s.len s.cap] [.c .slice] K h:=by
 refine gL s ?_;unfold dR r9;refine CondP.intro (fun d=>?_) (fun j=>?_)
 ·have d:s.a=none:=by simpa using d
  have hx:xs= []:=by
   by_cases hx:xs= []
   ·exact hx
   ·obtain⟨a,g,_⟩:=e.row hx
    rw[d]at g;cases g
  subst hx;exact i _ _ (OwnS.nil iz) (Upd.refl _ _)
 ·have k:=e.upd (Upd.hnew No h [] ah) (fun _ h=>h.elim)
  refine⟨_,k.srow,?_⟩;refine AppP.own (f:=hH) (M:=fun b=>h.size≤b) (xs:= []) (ys:=xs) ⟨rfl,iz,av _,.inl rfl⟩ e.len rfl (nL xs) rfl (by omega) (by simpa using o) (by rw[je];omega) fun s' c p n=>?_
  exact i _ _ p ((Upd.hnew No h [] ah).trans n fun b m=>.inr m)
theorem yv{M:Nat→Prop}{h:ac}{s:SliceV}{xs:List (ByteArray×ByteArray)}(z:OwnS hH 2 ah M h s xs){k:Nat}(y:k<xs.length)(P:xs.length≤4398046511104)
  {K:SliceV→ac→Prop}(G:∀s' h',OwnS hH 2 ah M h' s' (xs.take k++xs.drop (k+1))→Upd M h h'→K s' h'):
  HC PG cD [.slice s.a s.len s.cap,.int .i64 k,.int .i64 ((k+1:Nat):Int)] [.c .slice] K h:=by
 refine gA s k ((k+1:Nat):Int) ?_;unfold dN r9;have d:=z.len;have C:=z.cap;rcases z.blk with N|⟨b,a,J,w,hc,H⟩
 ·omega
 have p:((xs.take k).flatMap hH).length=k*2:=by rw[gw iz,aE,aL (by omega)]
 have m:((xs.drop (k+1)).flatMap hH).length=(xs.length-(k+1))*2:=by rw[gw iz,aB]
 have I:xs.flatMap hH=(xs.take k).flatMap hH++(hH xs[k]++(xs.drop (k+1)).flatMap hH):=by
  rw[←ba,←gH y];exact qE xs k
 rw[I]at hc;have f:=nL (xs.drop (k+1));have c:(xs.take k++xs.drop (k+1)).flatMap hH=(xs.take k).flatMap hH++(xs.drop (k+1)).flatMap hH:=bh;have E:(hH xs[k]).length=2:=rfl;generalize (xs.take k).flatMap hH=A at p hc c;generalize (xs.drop (k+1)).flatMap hH=B at m hc f c;generalize hH xs[k]=X at E hc;rw[J];simp only[d,aK];refine⟨by omega,by omega,by omega,CondP.intro (fun e=>?_) fun _=>?_⟩
 ·have:(k:Int)=((k+1:Nat):Int):=by simpa using e
  omega
 refine Join.plain ⟨by omega,by omega,B,?_,?_⟩
 ·by_cases g:xs.length=k+1
  ·exact⟨m,.inl (bp.1 (by rw[m,g,mK,Nat.zero_mul]))⟩
  rw[fu (by omega)];refine ge hc m ?_;have:(A++X).length=0+(k+1)*2:=by rw[ae];omega
  rw[show A++(X++B)++a=(A++X)++(B++a) by simp only[ay],bH this,bW m]
 ·rw[sub_zero]
  refine BT hc (by simp only[ae];omega) (by omega) f fun O i t=>?_
  have q:a.length=(s.cap-xs.length)*2:=by rw[H,d]
  refine⟨by dsimp only;omega,by dsimp only;omega,?_⟩
  simp only[Bd];rw[fu (by omega)];have F:xs.length-(k-0+(xs.length-(k+1)))=1:=by omega
  have v:(A++(X++B)++a).drop ((k-0)*2+B.length)=(X++B).drop B.length++a:=by
   rw[ay,←cB,bH (show A.length=(k-0)*2 by rw[p,c7]),dH (by rw[ae];omega)]
  have u:(A++(X++B)++a).take ((k-0)*2)=A:=by rw[ay,bW (show A.length=(k-0)*2 by rw[p,c7])]
  rw[v,u]at i;have o:((X++B).drop B.length).length=2:=by rw[aB,ae];omega
  generalize (X++B).drop B.length=D at o i;rw[F];have hz:(cd 1 [.string (⟨#[]⟩:ByteArray),.string (⟨#[]⟩:ByteArray)]).length=2:=rfl;have j:(A++B).length=0+(k-0+(xs.length-(k+1)))*2:=by rw[ae,p,m];omega
  refine y3 i (by simp only[ae]at j⊢;omega) fun L n x=>?_
  rw[bW j,←cB,bH j]at n;refine G _ _ ⟨by simp;omega,iz,by simp only;omega,.inr ⟨b,cd 1 [.string (⟨#[]⟩:ByteArray),.string (⟨#[]⟩:ByteArray)]++(D++a).drop (cd 1 [.string (⟨#[]⟩:ByteArray),.string (⟨#[]⟩:ByteArray)]).length,rfl,w,?_,?_⟩⟩ ((t.mono fun _ e=>.inl (e▸w)).tr (x.mono fun _ e=>.inl (e▸w)))
  ·rw[n,c];simp only[ay]
  ·simp only[ae,aB,hz,o,q]
   omega
theorem uR{W:Nat→Prop}{h:ac}{s:SliceV}{xs:List (Option Addr)}(e:Sl j4 1 W h s xs)(o:xs.length*8≤140737488355328){K:SliceV→ac→Prop}
  (i:∀s' c,OwnS j4 1 aJ (fun b=>h.size≤b) c s' xs→Upd No h c→K s' c):HC PG bL [.slice s.a s.len s.cap] [.c .slice] K h:=by
 refine fW s ?_;unfold dx;refine CondP.intro (fun d=>?_) (fun j=>?_)
 ·have d:s.a=none:=by simpa using d
  have hx:xs= []:=by
   by_cases hx:xs= []
   ·exact hx
   ·obtain⟨a,g,_⟩:=e.row hx
    rw[d]at g;cases g
  subst hx;exact i _ _ (OwnS.nil kj) (Upd.refl _ _)
 ·have k:=e.upd (Upd.hnew No h [] aJ) (fun _ h=>h.elim)
  refine⟨_,k.srow,?_⟩;refine AppP.own (f:=j4) (M:=fun b=>h.size≤b) (xs:= []) (ys:=xs) ⟨rfl,kj,av _,.inl rfl⟩ e.len rfl (rU xs) rfl (by omega) (by simpa using o) (by rw[je];omega) fun s' c p n=>?_
  exact i _ _ p ((Upd.hnew No h [] aJ).trans n fun b m=>.inr m)
theorem yw{M:Nat→Prop}{h:ac}{s:SliceV}{xs:List (Option Addr)}(z:OwnS j4 1 aJ M h s xs){k:Nat}(y:k<xs.length)(P:xs.length≤4398046511104)
  {K:SliceV→ac→Prop}(G:∀s' h',OwnS j4 1 aJ M h' s' (xs.take k++xs.drop (k+1))→Upd M h h'→K s' h'):
  HC PG cj [.slice s.a s.len s.cap,.int .i64 k,.int .i64 ((k+1:Nat):Int)] [.c .slice] K h:=by
 refine fJ s k ((k+1:Nat):Int) ?_;unfold di;have d:=z.len;have C:=z.cap;rcases z.blk with N|⟨b,a,J,w,hc,H⟩
 ·omega
 have p:((xs.take k).flatMap j4).length=k*1:=by rw[gw kj,aE,aL (by omega)]
 have m:((xs.drop (k+1)).flatMap j4).length=(xs.length-(k+1))*1:=by rw[gw kj,aB]
 have I:xs.flatMap j4=(xs.take k).flatMap j4++(j4 xs[k]++(xs.drop (k+1)).flatMap j4):=by
  rw[←ba,←gH y];exact qE xs k
 rw[I]at hc;have f:=rU (xs.drop (k+1));have c:(xs.take k++xs.drop (k+1)).flatMap j4=(xs.take k).flatMap j4++(xs.drop (k+1)).flatMap j4:=bh;have E:(j4 xs[k]).length=1:=rfl;generalize (xs.take k).flatMap j4=A at p hc c;generalize (xs.drop (k+1)).flatMap j4=B at m hc f c;generalize j4 xs[k]=X at E hc;rw[J];simp only[d,aK];refine⟨by omega,by omega,by omega,CondP.intro (fun e=>?_) fun _=>?_⟩
 ·have:(k:Int)=((k+1:Nat):Int):=by simpa using e
  omega
 refine Join.plain ⟨by omega,by omega,B,?_,?_⟩
 ·by_cases g:xs.length=k+1
  ·exact⟨m,.inl (bp.1 (by rw[m,g,mK,Nat.zero_mul]))⟩
  rw[fu (by omega)];refine ge hc m ?_;have:(A++X).length=0+(k+1)*1:=by rw[ae];omega
  rw[show A++(X++B)++a=(A++X)++(B++a) by simp only[ay],bH this,bW m]
 ·rw[sub_zero]
  refine BT hc (by simp only[ae];omega) (by omega) f fun O i t=>?_
  have q:a.length=(s.cap-xs.length)*1:=by rw[H,d]
  refine⟨by dsimp only;omega,by dsimp only;omega,?_⟩
  simp only[Bd];rw[fu (by omega)];have F:xs.length-(k-0+(xs.length-(k+1)))=1:=by omega
  have v:(A++(X++B)++a).drop ((k-0)*1+B.length)=(X++B).drop B.length++a:=by
   rw[ay,←cB,bH (show A.length=(k-0)*1 by rw[p,c7]),dH (by rw[ae];omega)]
  have u:(A++(X++B)++a).take ((k-0)*1)=A:=by rw[ay,bW (show A.length=(k-0)*1 by rw[p,c7])]
  rw[v,u]at i;have o:((X++B).drop B.length).length=1:=by rw[aB,ae];omega
  generalize (X++B).drop B.length=D at o i;rw[F];have hz:(cd 1 [.pointer none]).length=1:=rfl;have j:(A++B).length=0+(k-0+(xs.length-(k+1)))*1:=by rw[ae,p,m];omega
  refine y3 i (by simp only[ae]at j⊢;omega) fun L n x=>?_
  rw[bW j,←cB,bH j]at n;refine G _ _ ⟨by simp;omega,kj,by simp only;omega,.inr ⟨b,cd 1 [.pointer none]++(D++a).drop (cd 1 [.pointer none]).length,rfl,w,?_,?_⟩⟩ ((t.mono fun _ e=>.inl (e▸w)).tr (x.mono fun _ e=>.inl (e▸w)))
  ·rw[n,c];simp only[ay]
  ·simp only[ae,aB,hz,o,q]
   omega
theorem uP{W:Nat→Prop}{h:ac}{s:SliceV}{xs:List (Option Addr)}(e:Sl kR 1 W h s xs)(o:xs.length*8≤140737488355328){K:SliceV→ac→Prop}
  (i:∀s' c,OwnS kR 1 ax (fun b=>h.size≤b) c s' xs→Upd No h c→K s' c):HC PG bA [.slice s.a s.len s.cap] [.c .slice] K h:=by
 refine fy s ?_;unfold c6;refine CondP.intro (fun d=>?_) (fun j=>?_)
 ·have d:s.a=none:=by simpa using d
  have hx:xs= []:=by
   by_cases hx:xs= []
   ·exact hx
   ·obtain⟨a,g,_⟩:=e.row hx
    rw[d]at g;cases g
  subst hx;exact i _ _ (OwnS.nil lL) (Upd.refl _ _)
 ·have k:=e.upd (Upd.hnew No h [] ax) (fun _ h=>h.elim)
  refine⟨_,k.srow,?_⟩;refine AppP.own (f:=kR) (M:=fun b=>h.size≤b) (xs:= []) (ys:=xs) ⟨rfl,lL,av _,.inl rfl⟩ e.len rfl (vl xs) rfl (by omega) (by simpa using o) (by rw[je];omega) fun s' c p n=>?_
  exact i _ _ p ((Upd.hnew No h [] ax).trans n fun b m=>.inr m)
end Go.Proofs
namespace Go.Proofs
open Go.Lift
abbrev Pr:=ByteArray×ByteArray
theorem qF{a b:ByteArray}:a.toList=b.toList↔a=b:=by
 constructor
 ·intro h
  rw[ByteArray.toList_eq,ByteArray.toList_eq]at h;cases a;cases b;simp at h;subst h;rfl
 ·rintro rfl;rfl
def kl(a b:ByteArray):Prop:=Op.bytesLess a.toList b.toList=true
instance (a b:ByteArray):Decidable (kl a b):=inferInstanceAs (Decidable (_=true))
theorem x8{a b:ByteArray}:kl a b↔a.toList<b.toList:=by unfold kl;rw[bytesLess_eq,decide_eq_true_iff]
theorem dL(a:ByteArray):¬kl a a:=by rw[x8];exact List.lt_irrefl _
theorem km{a b c:ByteArray}(h:kl a b)(k:kl b c):kl a c:=by rw[x8]at*;exact List.lt_trans h k
theorem tri:∀x y:List UInt8,Op.bytesLess x y=false→x≠y→Op.bytesLess y x=true
 | [],[],_,h=>absurd rfl h
 | [],_::_,h,_=>by simp[Op.bytesLess]at h
 |_::_,[],_,_=>rfl
 |a::x,b::y,h,hn=>by
  simp only[Op.bytesLess,Bool.or_eq_false_iff,decide_eq_false_iff_not,Bool.and_eq_false_iff]at h;simp only[Op.bytesLess,Bool.or_eq_true,decide_eq_true_iff,Bool.and_eq_true];by_cases e:a=b
  ·subst e
   right;refine⟨by simp,tri x y ?_ fun e=>hn (by rw[e])⟩
   rcases h.2 with h|h
   ·simp at h
   ·exact h
  ·left
   have c:=h.1;rw[UInt8.lt_iff_toNat_lt]at c⊢;have:a.toNat≠b.toNat:=fun h=>e (UInt8.toNat_inj.1 h)
   omega
theorem vr{a b:ByteArray}(h:¬kl a b)(k:a≠b):kl b a:=tri _ _ (by unfold kl at h;simpa using h) fun e=>k (qF.1 e)
def wZ(a b:ByteArray):Int:=if kl a b then-1 else if a=b then 0 else 1
theorem wH{x:ByteArray}{h:ac}{K:Bool→ac→Prop}(a:K false h):HC PG g5 [.string x] [.c .bool] K h:=by
 refine rR x ?_;unfold mW;simpa using a
theorem yx{a b:ByteArray}{h:ac}{K:Int→ac→Prop}(c:K (wZ a b) h):HC PG iP [.string a,.string b] [.c (.int .i64)] K h:=by
 refine p6 a b ?_;unfold lH;refine wH (wH (al.2 (al.2 ?_)));unfold wZ at c;refine CondP.intro (fun e=>?_) fun e=>?_
 ·rw[if_pos (show kl a b from e)]at c;exact c
 ·have f:¬kl a b:=fun h=>by rw[show Op.bytesLess a.toList b.toList=true from h]at e;cases e
  rw[if_neg f]at c;rw[e];refine CondP.intro (fun d=>?_) fun d=>?_
  ·rw[if_neg (fun h=>by subst h;simp at d)]at c;exact c
  ·have:a.toList=b.toList:=by simpa using d
   rw[if_pos (qF.1 this)]at c;exact c
theorem A0{p:Pr}{k:ByteArray}{h:ac}{K:Int→ac→Prop}(a:∀h',Upd No h h'→K (wZ p.1 k) h'):HC PG j7 [.agg #[.string p.1,.string p.2],.string k] [.c (.int .i64)] K h:=by
 refine vL p k ?_;unfold qa aw qj uW;have b1:=cf h [.string p.1,.string p.2] ah;refine⟨p.1,by rw[dK,aX,aH b1];rfl,yx (a _ (Upd.hnew No h _ _))⟩
abbrev eO(l:List Pr):Prop:=l.Pairwise fun p q=>kl p.1 q.1
def mZ(l:List Pr)(k:ByteArray):Nat:=(l.takeWhile fun p=>decide (kl p.1 k)).length
def cK(l:List Pr)(k:ByteArray):Bool:=l.any fun p=>decide (p.1=k)
theorem AY{l:List Pr}{k:ByteArray}{i:Nat}(a:i≤l.length)(c:∀j (h:j<l.length),j<i→kl l[j].1 k)(b:∀(h:i<l.length),¬kl l[i].1 k):mZ l k=i:=by
 unfold mZ;induction l generalizing i with
 |nil=>simp at a;simp[a]
 |cons p l ih=>
  rw[List.takeWhile_cons];cases i with
  |zero=>
   have:=b (by simp);simp only[List.getElem_cons_zero]at this;rw[if_neg (by simpa using this)];rfl
  |succ i=>
   have:=c 0 (by simp) (by omega);simp only[List.getElem_cons_zero]at this;rw[if_pos (by simpa using this),List.length_cons];congr 1
   refine ih (by simpa using a) (fun j d e=>?_) fun h=>?_
   ·have:=c (j+1) (by simpa using d) (by omega)
    simpa using this
   ·have:=b (by simpa using h)
    simpa using this
theorem Dl(l:List Pr)(k:ByteArray):mZ l k≤l.length:=by
 unfold mZ;exact(List.takeWhile_prefix _).length_le
theorem zm{W:Nat→Prop}{h:ac}{s:SliceV}{l:List Pr}(Z:Sl hH 2 W h s l)(hr:eO l)(hn:l.length≤1000000000)(k:ByteArray){K:Int×Bool→ac→Prop}
  (E:∀z,Upd No h z→K ((mZ l k:Int),cK l k) z):HC PG lf [.slice s.a s.len s.cap,.string k] [.c (.int .i64),.c .bool] K h:=by
 refine xb s k ?_;unfold rA;refine d9 s k _ ?_;unfold cu gg m4 yc dZ;have T:=Z.len;have M:∀{p:Pr} {h:ac} {K:Int→ac→Prop},(∀z,Upd No h z→K (wZ p.1 k) z)→HV PG (.func (.func j7) #[] #[]) [.agg #[.string p.1,.string p.2],.string k] [.c (.int .i64)] K h:=fun E=>HV.mk' (A0 E)
 refine LoopP.ghost (fun(g:Nat×Nat) (t:Int×Int) z=>t.1=(g.1:Int)∧t.2=(g.2:Int)∧g.1≤g.2∧g.2≤l.length∧Upd No h z∧(∀j (S:j<l.length),j<g.1→kl l[j].1 k)∧(∀j (S:j<l.length),g.2≤j→¬kl l[j].1 k)) (fun g=>g.2-g.1) (0,l.length)
  ⟨rfl,by simp only;omega,by simp,by simp,Upd.refl _ _,fun j S h=>by omega,fun j S h=>by simp only at h;omega⟩ ?_
 rintro I ⟨i,j⟩ ⟨ti,tj⟩ z ⟨V,Y,D,A,G,f,w⟩ X;simp only at V Y D A f w;subst V Y;have J:=Z.upd G fun _ h=>h.elim
 have mono:∀a b (F:a<l.length) (U:b<l.length),a<b→kl l[a].1 l[b].1:=fun a b F U R=>List.pairwise_iff_getElem.1 hr a b F U R
 refine bi (fun u=>?_) fun Q=>?_
 ·have u:i<j:=by have:(i:Int)<(j:Int):=u;omega
  have em:IntKind.wrap .i64 (ey (IntKind.wrap .u64 (IntKind.wrap .i64 ((i:Int)+(j:Int)))) (2^(min (1:Int).toNat (IntKind.bits .u64))))=(((i+j)/2:Nat):Int):=by
   have e3:(2^(min (1:Int).toNat (IntKind.bits .u64)):Int)=2:=rfl;rw[e3,nR (x:=(i:Int)+(j:Int)) (by omega),Go.IntWalk.u64_in _ (by omega),Int.fdiv_eq_ediv_of_nonneg _ (by omega),nR (by omega)];omega
  refine⟨by decide,?_⟩;simp only[Bd];rw[em];generalize hm:(i+j)/2=m;have C:m<l.length:=by omega
  obtain⟨a,F,_,hv⟩:=J.at (aq C);refine⟨by omega,a,F,l[m].1,hv 0 _ rfl,l[m].2,hv 1 _ rfl,M fun h2 v=>?_⟩
  refine bi (fun o=>?_) fun H=>?_
  ·have c:kl l[m].1 k:=by
    unfold wZ at o;by_cases c:kl l[m].1 k
    ·exact c
    ·rw[if_neg c]at o;split at o<;>omega
   refine X (m+1,j) _ _ ⟨by simp only;rw[nR (by omega)];omega,rfl,by simp only;omega,A,G.tr v,fun q y B=>?_,w⟩ (by simp only;omega)
   simp only at B;rcases bV q m with h|h
   ·exact km (mono q m y C h) c
   ·have:q=m:=by omega
    subst this;exact c
  ·have n:¬kl l[m].1 k:=fun c=>H (by unfold wZ;rw[if_pos c];decide)
   refine X (i,m) _ _ ⟨rfl,rfl,by simp only;omega,by simp only;omega,G.tr v,f,fun q y B N=>?_⟩ (by simp only;omega)
   simp only at B;rcases bV m q with h|h
   ·exact n (km (mono m q C y h) N)
   ·have:q=m:=by omega
    subst this;exact n N
 ·have D:i=j:=by have:¬(i:Int)<(j:Int):=Q;omega
  subst D;have L:mZ l k=i:=AY A f fun hi=>w i hi (av _)
  rw[L]at E;refine bi (fun u=>?_) fun P=>?_
  ·have d:i<l.length:=by have:(i:Int)<(s.len:Int):=u;omega
   obtain⟨a,F,_,hv⟩:=J.at (aq d);refine⟨by simp only;omega,a,F,l[i].1,hv 0 _ rfl,l[i].2,hv 1 _ rfl,M fun h2 v=>?_⟩
   have n:=w i d (av _);have O:(wZ l[i].1 k==(0:Int))=cK l k:=by
    unfold wZ cK;rw[if_neg n,Bool.eq_iff_iff,List.any_eq_true];constructor
    ·intro h
     split at h
     ·rename_i e;exact⟨l[i],List.getElem_mem d,decide_eq_true e⟩
     ·simp at h
    ·rintro⟨p,L,e⟩
     have e:=of_decide_eq_true e;obtain⟨q,y,rfl⟩:=List.mem_iff_getElem.1 L;have:q=i:=by
      rcases Nat.lt_trichotomy q i with h|h|h
      ·exact absurd (e▸f q y h) (dL _)
      ·exact h
      ·exact absurd (e▸mono i q d y h) n
     subst this;rw[if_pos e];rfl
   rw[O];exact E _ (G.tr v)
  ·have d:i=l.length:=by have:¬(i:Int)<(s.len:Int):=P;omega
   have O:cK l k=false:=by
    unfold cK;rw[List.any_eq_false];intro p L e;have e:=of_decide_eq_true e;obtain⟨q,y,rfl⟩:=List.mem_iff_getElem.1 L;exact absurd (e▸f q y (by omega)) (dL _)
   rw[O]at E;exact E _ G
end Go.Proofs
