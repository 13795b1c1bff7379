/- A part of the proof that the named laws of this program answer true, whatever the input. -/
import Derived.Test.YtcpiahjlddmfiaaGreatTreeF0
import Derived.Test.YtcpiahjlddmfiaaGreatTreeF1
import Derived.Test.YtcpiahjlddmfiaaGreatTreeF2
import Derived.Test.YtcpiahjlddmfiaaGreatLaw0
import Derived.Test.YtcpiahjlddmfiaaGreatLift3
import Derived.Lib.Overlaps
import Derived.Sort.Walk0
open BitVec renaming ofInt→ak
open ByteArray renaming size_extract→pU
open Int renaming fdiv→dW,toNat_natCast→aY
open List renaming flatMap_cons→aK,take_length→cW,length_take→aP,length_drop→aM,flatMap_append→bL,drop_zero→cP,append_assoc→ax,take_append_of_le_length→eW,take_of_length_le→bj,length_append→ad,drop_left→g5,take_left→gY,size_toArray→cY,drop_eq_getElem_cons→jl,length_eq_zero_iff→aE,drop_left'→cj,take_left'→cF,drop_drop→cG,drop_append_of_le_length→eX,getElem_cons_zero→eI,getElem?_eq_getElem→aj
open Nat renaming zero_add→aH,sub_self→iz,le_refl→al,lt_or_ge→cg,min_eq_left→bH,sub_zero→ef,min→dD,add_one_mul→ge,one_mul→rm,le_mul_of_pos_left→pQ,min_eq_right→mW,zero_mul→wF
namespace Go.Proofs
open Go.Lift
theorem Lm(n:Int):0≤IntKind.wrap .u64 n∧IntKind.wrap .u64 n<18446744073709551616:=by rw[IntKind.wrap_u64];omega
theorem d8{x:Int}(h: -4611686018427387904≤x∧x≤4611686018427387904):IntKind.wrap .i64 x=x:=Go.IntWalk.i64_in _ (by omega)
theorem jm{i n:Nat}(h:i<n)(a:n≤4611686018427387904):IntKind.wrap .i64 ((i:Int)+1)=((i+1:Nat):Int):=by rw[d8 (by omega)];omega
theorem xP{h:ac}{b i:Nat}{c:Array Value}{t:TypeId}{v:Value}{k:ac→Prop}(a:h[b]? =some (.cells c t (0,0)))
  (d:∀h',h'[b]? =some (.cells (c.setIfInBounds i v) t (0,0))→Upd (· =b) h h'→k h'):At (hset h ⟨b,i,none⟩ v) k:=by
 refine d _ ?_ (Upd.hset _ _ rfl);rw[qP a,fF a]
def QT(a b:Int):Int:=IntKind.wrap .u64 (ak (IntKind.bits .u64) a&&&ak (IntKind.bits .u64) b).toNat
def fX(a b:Int):Int:=IntKind.wrap .u64 (ak (IntKind.bits .u64) a^^^ak (IntKind.bits .u64) b).toNat
def PV(a b:Int):Int:=IntKind.wrap .u64 (ak (IntKind.bits .u64) a|||ak (IntKind.bits .u64) b).toNat
def LG(x n:Int):Int:=
 PV (IntKind.wrap .u64 (x*2^(min (QT (IntKind.wrap .u64 n) 63).toNat (IntKind.bits .u64)))) (dW x (2^(min (IntKind.wrap .u64 (64-QT (IntKind.wrap .u64 n) 63)).toNat (IntKind.bits .u64))))
theorem BZ{x n:Int}{h:ac}{K:Int→ac→Prop}(a:K (LG x n) h):HC PG cU [.int .u64 x,.int .i64 n] [.c (.int .u64)] K h:=by
 refine uS x n ?_;unfold nZ;exact⟨(Lm _).1,(Lm _).1,a⟩
abbrev Q4:=Int×Int×Int×Int
def q4(s:Q4):Array Value:= #[.int .u64 s.1,.int .u64 s.2.1,.int .u64 s.2.2.1,.int .u64 s.2.2.2]
def Sz(a b:Int):Int:=IntKind.wrap .u64 (a+b)
def Q7(s:Q4):Q4:=(Sz s.1 s.2.1,s.2)
def RD(s:Q4):Q4:=(s.1,fX (LG s.2.1 13) s.1,s.2.2)
def SI(s:Q4):Q4:=(LG s.1 32,s.2)
def Td(s:Q4):Q4:=(s.1,s.2.1,Sz s.2.2.1 s.2.2.2,s.2.2.2)
def TQ(s:Q4):Q4:=(s.1,s.2.1,s.2.2.1,fX (LG s.2.2.2 16) s.2.2.1)
def T9(s:Q4):Q4:=(Sz s.1 s.2.2.2,s.2)
def UX(s:Q4):Q4:=(s.1,s.2.1,s.2.2.1,fX (LG s.2.2.2 21) s.1)
def Vg(s:Q4):Q4:=(s.1,s.2.1,Sz s.2.2.1 s.2.1,s.2.2.2)
def s09(s:Q4):Q4:=(s.1,fX (LG s.2.1 17) s.2.2.1,s.2.2)
def Tc(s:Q4):Q4:=(s.1,s.2.1,LG s.2.2.1 32,s.2.2.2)
def LF(s:Q4):Q4:=Tc (s09 (Vg (UX (T9 (TQ (Td (SI (RD (Q7 s)))))))))
def pj:Nat→Q4→Q4
 |0,s=>s
 |n+1,s=>pj n (LF s)
theorem p9{h:ac}{b i:Nat}{t:TypeId}{s s':Q4}{v:Value}{k:ac→Prop}(f:h[b]? =some (.cells (q4 s) t (0,0))) (e:(q4 s).setIfInBounds i v=q4 s')
  (c:∀h',h'[b]? =some (.cells (q4 s') t (0,0))→Upd (· =b) h h'→k h'):At (hset h ⟨b,i,none⟩ v) k:=
 xP f fun h' a d=>c h' (e▸a) d
theorem GU{n:Nat}(V:n≤100){h:ac}{b:Nat}{t:TypeId}{s:Q4}(B:h[b]? =some (.cells (q4 s) t (0,0))) {K:Unit→ac→Prop}
  (P:∀h',h'[b]? =some (.cells (q4 (pj n s)) t (0,0))→Upd (· =b) h h'→K () h'):HC PG iW [.pointer (some ⟨b,0,none⟩),.int .i64 n] [] K h:=by
 refine zR _ _ ?_;unfold te aZ cp dI uA;refine LoopP.ghost (fun(g:Nat×Q4) (Q:Int) h'=>Q=(g.1:Int)∧g.1≤n∧h'[b]? =some (.cells (q4 g.2) t (0,0))∧Upd (· =b) h h'∧pj (n-g.1) g.2=pj n s) (fun g=>n-g.1) (0,s) ⟨rfl,Nat.zero_le _,B,Upd.refl _ _,rfl⟩ ?_
 rintro I ⟨i,d⟩ Q h' ⟨N,hi,a,O,x⟩ R;simp only at N hi a x;subst N;refine aD (fun v=>?_) fun U=>?_
 ·have v:i<n:=by omega
  have c:∀{h:ac} {s:Q4} {i:Nat},h[b]? =some (.cells (q4 s) t (0,0))→aI h ⟨b,0+i,none⟩=(q4 s)[i]?:=fun B=>by rw[aH];exact aL B
  have w:∀{h:ac} {s:Q4} {i:Nat},h[b]? =some (.cells (q4 s) t (0,0))→i<4→Wr h ⟨b,0+i,none⟩:=fun B hi=>by rw[aH];exact gn B hi
  simp only[show((0:Int)).toNat*1=0 from rfl,show((1:Int)).toNat*1=1 from rfl,show((2:Int)).toNat*1=2 from rfl,show((3:Int)).toNat*1=3 from rfl]
  refine⟨_,rfl,by decide,_,c (i:=0) a,_,rfl,by decide,_,c (i:=1) a,_,rfl,by decide,w (i:=0) a (by decide),p9 (s':=Q7 d) a rfl fun h2 j H=>?_⟩
  refine⟨_,rfl,by decide,_,c (i:=1) j,_,rfl,by decide,_,c (i:=0) j,_,rfl,BZ ⟨c (i:=0) j,by decide,w (i:=1) j (by decide),p9 (s':=RD (Q7 d)) j rfl fun W u J=>?_⟩⟩
  refine⟨_,rfl,by decide,_,c (i:=0) u,_,rfl,BZ ⟨by decide,w (i:=0) u (by decide),p9 (s':=SI (RD (Q7 d))) u rfl fun X o F=>?_⟩⟩
  refine⟨_,rfl,by decide,_,c (i:=2) o,_,rfl,by decide,_,c (i:=3) o,_,rfl,by decide,w (i:=2) o (by decide),p9 (s':=Td (SI (RD (Q7 d)))) o rfl fun Y m G=>?_⟩
  refine⟨_,rfl,by decide,_,c (i:=3) m,_,rfl,by decide,_,c (i:=2) m,_,rfl,BZ ⟨c (i:=2) m,by decide,w (i:=3) m (by decide),p9 (s':=TQ (Td (SI (RD (Q7 d))))) m rfl fun h6 p E=>?_⟩⟩
  refine⟨_,rfl,by decide,_,c (i:=0) p,_,rfl,by decide,_,c (i:=3) p,_,rfl,by decide,w (i:=0) p (by decide),p9 (s':=T9 (TQ (Td (SI (RD (Q7 d)))))) p rfl fun Z e D=>?_⟩
  refine⟨_,rfl,by decide,_,c (i:=3) e,_,rfl,by decide,_,c (i:=0) e,_,rfl,BZ ⟨c (i:=0) e,by decide,w (i:=3) e (by decide),p9 (s':=UX (T9 (TQ (Td (SI (RD (Q7 d))))))) e rfl fun h8 q L=>?_⟩⟩
  refine⟨_,rfl,by decide,_,c (i:=2) q,_,rfl,by decide,_,c (i:=1) q,_,rfl,by decide,w (i:=2) q (by decide),p9 (s':=Vg (UX (T9 (TQ (Td (SI (RD (Q7 d)))))))) q rfl fun h9 k C=>?_⟩
  refine⟨_,rfl,by decide,_,c (i:=1) k,_,rfl,by decide,_,c (i:=2) k,_,rfl,BZ ⟨c (i:=2) k,by decide,w (i:=1) k (by decide),p9 (s':=s09 (Vg (UX (T9 (TQ (Td (SI (RD (Q7 d))))))))) k rfl fun S f z=>?_⟩⟩
  refine⟨_,rfl,by decide,_,c (i:=2) f,_,rfl,BZ ⟨by decide,w (i:=2) f (by decide),p9 (s':=LF d) f rfl fun T y A=>?_⟩⟩
  rw[jm v (by omega)];refine R (i+1,LF d) _ _ ⟨rfl,v,y,O.tr (H.tr (J.tr (F.tr (G.tr (E.tr (D.tr (L.tr (C.tr (z.tr A))))))))),?_⟩ (by simp only;omega);simp only;rw[←x,show n-i=(n-(i+1))+1 by omega];rfl
 ·obtain rfl:i=n:=by omega
  rw[iz]at x;have x:d=pj i s:=x;rw[←x]at P;exact P _ a O
end Go.Proofs
namespace Go.Proofs
open Go.Lift
def Su(s:ByteArray)(i:Nat):Int:=match s[i]? with|some b=>(b.toNat:Int)|none=>0
def UW(b:Int)(n:Int):Int:=IntKind.wrap .u64 ((IntKind.wrap .u64 b)*2^(min n.toNat (IntKind.bits .u64)))
def wj(s:ByteArray):Nat→Int→Int
 |0,t=>t
 |k+1,t=>wj s k (PV t (if k=0 then IntKind.wrap .u64 (Su s 0)else UW (Su s k) ((8*k:Nat):Int)))
def CV(s:ByteArray):Int:=wj s s.size 0
theorem tV{s:ByteArray}{i:Nat}(h:i<s.size):∃b,s[i]? =some b∧Su s i=(b.toNat:Int):=⟨s[i],getElem?_pos s i h,by simp[Su,getElem?_pos s i h]⟩
theorem M1{s:ByteArray}(R:s.size≤8){h:ac}{K:Int→ac→Prop}(g:K (CV s) h):HC PG wn [.string s] [.c (.int .u64)] K h:=by
 refine MJ s ?_;unfold FS;refine Join.intro (fun t h'=>h'=h∧1≤s.size∧wj s 1 t=wj s s.size 0) (fun C j=>?_) ?_
 ·refine Join.intro (fun t h'=>h'=h∧2≤s.size∧wj s 2 t=wj s s.size 0) (fun R2 n=>?_) ?_
  ·refine Join.intro (fun t h'=>h'=h∧3≤s.size∧wj s 3 t=wj s s.size 0) (fun H m=>?_) ?_
   ·refine Join.intro (fun t h'=>h'=h∧4≤s.size∧wj s 4 t=wj s s.size 0) (fun F k=>?_) ?_
    ·refine Join.intro (fun t h'=>h'=h∧5≤s.size∧wj s 5 t=wj s s.size 0) (fun E q=>?_) ?_
     ·refine Join.intro (fun t h'=>h'=h∧6≤s.size∧wj s 6 t=wj s s.size 0) (fun I p=>?_) ?_
      ·refine Join.intro (fun t h'=>h'=h∧7≤s.size∧wj s 7 t=wj s s.size 0) (fun P o=>?_) ?_
       ·refine CondP.intro (fun e=>?_) fun u=>?_
        ·have e:s.size=8:=by have:=of_decide_eq_true (by simpa using e:decide ((s.size:Int)=8)=true);omega
         obtain⟨b,a,c⟩:=tV (s:=s) (i:=7) (by omega);refine⟨b,by decide,a,by decide,o _ _ ⟨rfl,by omega,?_⟩⟩
         rw[e,←c];rfl
        refine CondP.intro (fun e=>?_) fun B=>?_
        ·have e:s.size=7:=by have:=of_decide_eq_true (by simpa using e:decide ((s.size:Int)=7)=true);omega
         exact o _ _ ⟨rfl,by omega,by rw[e]⟩
        refine CondP.intro (fun e=>?_) fun w=>?_
        ·have e:s.size=6:=by have:=of_decide_eq_true (by simpa using e:decide ((s.size:Int)=6)=true);omega
         exact p _ _ ⟨rfl,by omega,by rw[e]⟩
        refine CondP.intro (fun e=>?_) fun x=>?_
        ·have e:s.size=5:=by have:=of_decide_eq_true (by simpa using e:decide ((s.size:Int)=5)=true);omega
         exact q _ _ ⟨rfl,by omega,by rw[e]⟩
        refine CondP.intro (fun e=>?_) fun z=>?_
        ·have e:s.size=4:=by have:=of_decide_eq_true (by simpa using e:decide ((s.size:Int)=4)=true);omega
         exact k _ _ ⟨rfl,by omega,by rw[e]⟩
        refine CondP.intro (fun e=>?_) fun A=>?_
        ·have e:s.size=3:=by have:=of_decide_eq_true (by simpa using e:decide ((s.size:Int)=3)=true);omega
         exact m _ _ ⟨rfl,by omega,by rw[e]⟩
        refine CondP.intro (fun e=>?_) fun v=>?_
        ·have e:s.size=2:=by have:=of_decide_eq_true (by simpa using e:decide ((s.size:Int)=2)=true);omega
         exact n _ _ ⟨rfl,by omega,by rw[e]⟩
        refine CondP.intro (fun e=>?_) fun y=>?_
        ·have e:s.size=1:=by have:=of_decide_eq_true (by simpa using e:decide ((s.size:Int)=1)=true);omega
         exact j _ _ ⟨rfl,by omega,by rw[e]⟩
        have e:s.size=0:=by
         have G:¬(s.size:Int)=1:=by simpa using y
         have N:¬(s.size:Int)=2:=by simpa using v
         have J:¬(s.size:Int)=3:=by simpa using A
         have q4:¬(s.size:Int)=4:=by simpa using z
         have O:¬(s.size:Int)=5:=by simpa using x
         have D:¬(s.size:Int)=6:=by simpa using w
         have L:¬(s.size:Int)=7:=by simpa using B
         have Q:¬(s.size:Int)=8:=by simpa using u
         omega
        unfold CV at g;rw[e]at g;exact g
       ·rintro t _ ⟨rfl,f,d⟩
        obtain⟨b,a,c⟩:=tV (s:=s) (i:=6) (by omega);refine⟨b,by decide,a,by decide,p _ _ ⟨rfl,by omega,?_⟩⟩
        rw[←d,←c];rfl
      ·rintro t _ ⟨rfl,f,d⟩
       obtain⟨b,a,c⟩:=tV (s:=s) (i:=5) (by omega);refine⟨b,by decide,a,by decide,q _ _ ⟨rfl,by omega,?_⟩⟩
       rw[←d,←c];rfl
     ·rintro t _ ⟨rfl,f,d⟩
      obtain⟨b,a,c⟩:=tV (s:=s) (i:=4) (by omega);refine⟨b,by decide,a,by decide,k _ _ ⟨rfl,by omega,?_⟩⟩
      rw[←d,←c];rfl
    ·rintro t _ ⟨rfl,f,d⟩
     obtain⟨b,a,c⟩:=tV (s:=s) (i:=3) (by omega);refine⟨b,by decide,a,by decide,m _ _ ⟨rfl,by omega,?_⟩⟩
     rw[←d,←c];rfl
   ·rintro t _ ⟨rfl,f,d⟩
    obtain⟨b,a,c⟩:=tV (s:=s) (i:=2) (by omega);refine⟨b,by decide,a,by decide,n _ _ ⟨rfl,by omega,?_⟩⟩
    rw[←d,←c];rfl
  ·rintro t _ ⟨rfl,f,d⟩
   obtain⟨b,a,c⟩:=tV (s:=s) (i:=1) (by omega);refine⟨b,by decide,a,by decide,j _ _ ⟨rfl,by omega,?_⟩⟩
   rw[←d,←c];rfl
 ·rintro t _ ⟨rfl,f,d⟩
  obtain⟨b,a,c⟩:=tV (s:=s) (i:=0) (by omega);refine⟨b,by decide,a,?_⟩
  unfold CV at g;rw[←d]at g;rw[←c];exact g
end Go.Proofs
namespace Go.Proofs
open Go.Lift
def EB(m:Int)(s:Q4):Q4:=
 let r:=pj 2 (s.1,s.2.1,s.2.2.1,fX s.2.2.2 m)
 (fX r.1 m,r.2)
theorem M6{m:Int}{h:ac}{b:Nat}{t:TypeId}{s:Q4}(d:h[b]? =some (.cells (q4 s) t (0,0))) {K:Unit→ac→Prop}
  (k:∀h',h'[b]? =some (.cells (q4 (EB m s)) t (0,0))→Upd (· =b) h h'→K () h'):HC PG mE [.pointer (some ⟨b,0,none⟩),.int .u64 m] [] K h:=by
 refine CD _ _ ?_;unfold vx aZ cp dI kq;have c:∀{h:ac} {s:Q4} {i:Nat},h[b]? =some (.cells (q4 s) t (0,0))→aI h ⟨b,0+i,none⟩=(q4 s)[i]?:=fun d=>by rw[aH];exact aL d
 have w:∀{h:ac} {s:Q4} {i:Nat},h[b]? =some (.cells (q4 s) t (0,0))→i<4→Wr h ⟨b,0+i,none⟩:=fun d hi=>by rw[aH];exact gn d hi
 simp only[show((0:Int)).toNat*1=0 from rfl,show((3:Int)).toNat*1=3 from rfl]
 refine⟨_,rfl,by decide,_,c (i:=3) d,_,rfl,by decide,w (i:=3) d (by decide),p9 (s':=(s.1,s.2.1,s.2.2.1,fX s.2.2.2 m)) d rfl fun q f j=>?_⟩
 refine GU (n:=2) (by omega) f fun v a g=>?_
 have p:EB m s=(fX (pj 2 (s.1,s.2.1,s.2.2.1,fX s.2.2.2 m)).1 m,(pj 2 (s.1,s.2.1,s.2.2.1,fX s.2.2.2 m)).2):=by unfold EB;rfl
 rw[p]at k;generalize pj 2 (s.1,s.2.1,s.2.2.1,fX s.2.2.2 m)=r at a k;refine⟨_,rfl,by decide,_,c (i:=0) a,_,rfl,by decide,w (i:=0) a (by decide),p9 (s':=(fX r.1 m,r.2)) a rfl fun u e o=>?_⟩
 exact k _ e (j.tr (g.tr o))
def EG:Nat→ByteArray→Q4→ByteArray×Q4
 |0,s,q=>(s,q)
 |n+1,s,q=>if 8≤s.size then EG n (s.extract 8 s.size) (EB (CV (s.extract 0 8)) q)else(s,q)
def UI(r:Q4):Int:=fX (fX (fX r.1 r.2.1) r.2.2.1) r.2.2.2
def UH(q:Q4):Int:=UI (pj 4 (q.1,q.2.1,fX q.2.2.1 255,q.2.2.2))
def Vd(n:Nat)(g:ByteArray×Q4):Int:=UH (EB (PV (CV g.1) (UW (n:Int) 56)) g.2)
def Rz(k0 k1:Int)(s:ByteArray):Int:=
 Vd s.size (EG s.size s (fX k0 8317987319222330741,fX k1 7237128888997146477,fX k0 7816392313619706465,fX k1 8387220255154660723))
theorem Sj{a:ac}{b:Nat}{t:TypeId}{r:Q4}(g:a[b]? =some (.cells (q4 r) t (0,0))) {K:Int→Prop} (f:K (UI r)):
  (((0:Int)≤(0:Int)∧(0:Int)<((4:Nat):Int))∧
   ∃v30:Int,aI a (adr ⟨b,0,none⟩ ((0:Int).toNat*1))=some (.int .u64 v30)∧
   (((0:Int)≤(1:Int)∧(1:Int)<((4:Nat):Int))∧
    ∃v31:Int,aI a (adr ⟨b,0,none⟩ ((1:Int).toNat*1))=some (.int .u64 v31)∧
    Bd (IntKind.wrap .u64 (ak (IntKind.bits .u64) v30^^^ak (IntKind.bits .u64) v31).toNat:Int) (fun n32=>
     (((0:Int)≤(2:Int)∧(2:Int)<((4:Nat):Int))∧
      ∃v33:Int,aI a (adr ⟨b,0,none⟩ ((2:Int).toNat*1))=some (.int .u64 v33)∧
      Bd (IntKind.wrap .u64 (ak (IntKind.bits .u64) n32^^^ak (IntKind.bits .u64) v33).toNat:Int) (fun d=>
       (((0:Int)≤(3:Int)∧(3:Int)<((4:Nat):Int))∧
        ∃v35:Int,aI a (adr ⟨b,0,none⟩ ((3:Int).toNat*1))=some (.int .u64 v35)∧
        Bd (IntKind.wrap .u64 (ak (IntKind.bits .u64) d^^^ak (IntKind.bits .u64) v35).toNat:Int) (fun e=>
         K e))))))):=by
 have c:∀{i:Nat},aI a ⟨b,0+i,none⟩=(q4 r)[i]?:=by intro i;rw[aH];exact aL g
 exact⟨by decide,_,c (i:=0),by decide,_,c (i:=1),by decide,_,c (i:=2),by decide,_,c (i:=3),f⟩
theorem Si{a:ac}{b:Nat}{t:TypeId}{q:Q4}(j:a[b]? =some (.cells (q4 q) t (0,0))) {K:Unit→ac→Prop}
  (p:∀h',h'[b]? =some (.cells (q4 (pj 4 (q.1,q.2.1,fX q.2.2.1 255,q.2.2.2))) t (0,0))→Upd (· =b) a h'→K () h'):
  (((0:Int)≤(2:Int)∧(2:Int)<((4:Nat):Int))∧
   ∃v25:Int,aI a (adr ⟨b,0,none⟩ ((2:Int).toNat*1))=some (.int .u64 v25)∧
   Bd (IntKind.wrap .u64 (ak (IntKind.bits .u64) v25^^^ak (IntKind.bits .u64) 255).toNat:Int) (fun f=>
    (((0:Int)≤(2:Int)∧(2:Int)<((4:Nat):Int))∧
     (Wr a (adr ⟨b,0,none⟩ ((2:Int).toNat*1))∧
      At (hset a (adr ⟨b,0,none⟩ ((2:Int).toNat*1)) (.int .u64 f)) (fun g=>
       HC PG iW [.pointer (some ⟨b,0,none⟩),.int .i64 4] [] K g))))):=by
 have c:∀{i:Nat},aI a ⟨b,0+i,none⟩=(q4 q)[i]?:=by intro i;rw[aH];exact aL j
 refine⟨by decide,_,c (i:=2),by decide,by rw[show((2:Int)).toNat*1=2 from rfl,bW];exact gn j (by simp[q4]),?_⟩
 refine p9 (s':=(q.1,q.2.1,fX q.2.2.1 255,q.2.2.2)) j rfl fun s m e=>?_
 exact GU (n:=4) (by omega) m fun o d k=>p o d (e.tr k)
theorem bw{h:ac}{k:ac→Prop}(a:k h):At h k:=a
theorem S6{k0 k1:Int}{s:ByteArray}{h:ac}{K:Int→ac→Prop}(C:∀h',Upd No h h'→K (Rz k0 k1 s) h'):HC PG Ck [.agg #[.int .u64 k0,.int .u64 k1],.string s] [.c (.int .u64)] K h:=by
 refine OW (k0,k1) s ?_;unfold HH aZ cp ae nv dI kq Ua TT TW Rg;have t:=Upd.hnew No h [.int .u64 k0,.int .u64 k1] lu;have b1:=bE h [.int .u64 k0,.int .u64 k1] lu;have L:=gt h [.int .u64 k0,.int .u64 k1] lu;refine bw ?_;simp only[cr h];generalize hnew h [.int .u64 k0,.int .u64 k1] lu=h1 at t b1 L;refine⟨k0,by rw[bW,aL b1];rfl,k1,by rw[bW,aL b1];rfl,k0,by rw[bW,aL b1];rfl,k1,by rw[bW,aL b1];rfl,?_⟩
 have H:=Upd.hnew No h1 [.int .u64 0,.int .u64 0,.int .u64 0,.int .u64 0] js;have b2:=bE h1 [.int .u64 0,.int .u64 0,.int .u64 0,.int .u64 0] js;simp only[cr h1];simp only[Bd];refine bw ?_;refine⟨.inr ⟨_,rfl,fun j E=>by rw[bW];exact gn b2 (by simp at E⊢;omega)⟩,?_⟩
 refine bw ?_;rw[jo _ _ 0 0 _ b2 (by simp)];have b3:=fF (o:=.cells (q4 (fX k0 8317987319222330741,fX k1 7237128888997146477,fX k0 7816392313619706465,fX k1 8387220255154660723)) js (0,0)) b2;have J:Upd No h _:=t.tr (H.trans (M':=(· =h1.size)) (Upd.set (hnew h1 [.int .u64 0,.int .u64 0,.int .u64 0,.int .u64 0] js) (.cells (q4 (fX k0 8317987319222330741,fX k1 7237128888997146477,fX k0 7816392313619706465,fX k1 8387220255154660723)) js (0,0)) rfl) fun b a=>.inr (Nat.le_of_eq a.symm))
 refine LoopP.ghost (fun(g:Nat×Q4) (d:ByteArray) h'=>d.size≤g.1∧h'[h1.size]? =some (.cells (q4 g.2) js (0,0))∧Upd No h h'∧EG g.1 d g.2=EG s.size s (fX k0 8317987319222330741,fX k1 7237128888997146477,fX k0 7816392313619706465,fX k1 8387220255154660723)) (fun g=>g.1) (s.size,_)
  ⟨al _,b3,J,rfl⟩ ?_
 rintro I ⟨n,q⟩ d h' ⟨F,a,B,p⟩ D;simp only at F a p;have f:∀b,b=h1.size→No b∨h.size≤b:=fun b a=>.inr (by omega)
 refine aD (fun u=>?_) fun z=>?_
 ·have u:8≤d.size:=by omega
  cases n with
  |zero=>omega
  |succ n=>
   refine⟨by omega,M1 (by rw[pU];show min 8 _-0≤8;omega) (M6 a fun N e k=>⟨by omega,?_⟩)⟩
   have G:((8:Int)).toNat=8:=rfl;rw[G]at e⊢;refine D (n,EB (CV (d.extract 0 8)) q) _ _ ⟨by simp only[pU];omega,e,B.trans k f,?_⟩ (by simp only;omega);rw[←p];simp only[EG,if_pos u]
 ·have z:d.size<8:=by omega
  have p:(d,q)=EG s.size s (fX k0 8317987319222330741,fX k1 7237128888997146477,fX k0 7816392313619706465,fX k1 8387220255154660723):=by
   rw[←p];cases n with
   |zero=>rfl
   |succ n=>simp only[EG,if_neg (show ¬8≤d.size by omega)]
  have c:∀{h:ac} {s:Q4} {i:Nat},h[h1.size]? =some (.cells (q4 s) js (0,0))→aI h ⟨h1.size,0+i,none⟩=(q4 s)[i]?:=fun a=>by rw[aH];exact aL a
  have w:∀{h:ac} {s:Q4} {i:Nat},h[h1.size]? =some (.cells (q4 s) js (0,0))→i<4→Wr h ⟨h1.size,0+i,none⟩:=fun a hi=>by rw[aH];exact gn a hi
  have v:Rz k0 k1 s=UH (EB (PV (CV d) (UW (s.size:Int) 56)) q):=by unfold Rz;rw[←p];rfl
  rw[v]at C;refine M1 (by omega) ⟨by decide,M6 (m:=PV (CV d) (UW (s.size:Int) 56)) a fun N e k=>?_⟩
  refine Si e fun A y x=>Sj (K:=fun n=>K n A) y ?_
  exact C A ((B.trans k f).trans x f)
structure Hs where
 k0:Int
 k1:Int
 mask:Int
def jt(h:Hs)(s:ByteArray):Int:=QT (Rz h.k0 h.k1 s) h.mask
theorem AH{x:Hs}{s:ByteArray}{h:ac}{K:Int→ac→Prop}(c:∀h',Upd No h h'→K (jt x s) h'):HC PG fI [.agg #[.int .u64 x.k0,.int .u64 x.k1,.int .u64 x.mask],.string s] [.c (.int .u64)] K h:=by
 refine A6 (x.k0,x.k1,x.mask) s ?_;unfold ue ae D9 eE TY;have a:=Upd.hnew No h [.int .u64 x.k0,.int .u64 x.k1,.int .u64 x.mask] ct;have b1:=bE h [.int .u64 x.k0,.int .u64 x.k1,.int .u64 x.mask] ct;simp only[At,cr h];generalize hnew h [.int .u64 x.k0,.int .u64 x.k1,.int .u64 x.mask] ct=h1 at a b1;refine⟨x.k0,by rw[bW,bW,aL b1];rfl,x.k1,by rw[bW,bW,aL b1];rfl,x.mask,by rw[bW,aL b1];rfl,?_⟩
 refine S6 fun d b=>⟨by rw[bW,aL (b.get0 b1)];rfl,c _ (a.tr b)⟩
theorem Kp(x:Hs)(s:ByteArray):0≤jt x s∧jt x s<18446744073709551616:=Lm _
end Go.Proofs
namespace Go.Proofs
open Go Go.Lift
abbrev eJ(x:ByteArray×ByteArray):List Value:= [.string x.1,.string x.2]
theorem gS(x:ByteArray×ByteArray):(eJ x).length=2∧0<2:=⟨rfl,by omega⟩
theorem vS:∀xs:List (ByteArray×ByteArray),ce (xs.flatMap eJ)=true
 | []=>rfl
 |x::xs=>by rw[aK];exact pm rfl (vS xs)
theorem Ii{h:ac}{a b o d f e c:Nat}{j cw:Array Value}{k tb:TypeId}(g:h[a]? =some (.cells j k (0,0))) (p:h[b]? =some (.cells cw tb (0,0))) (m:a≠b) (q:cw.size≠0) {K:Bool→ac→Prop} (n:K false h):
  HC PG iy [.slice (some ⟨a,0,none⟩) d f,.slice (some ⟨b,o,none⟩) e c] [.c .bool] K h:=by
 refine⟨fun w i=>.inr ⟨.bool false,w,?_,Tame.refl w,false,rfl,i▸n⟩⟩
 subst i;rw[sq];have:=Lib.run_overlaps_apart (P:=PG) w cf xe ag (by kernel_rfl) (bM PG ag) (qQ (by kernel_rfl)) ⟨a,0,none⟩ ⟨b,o,none⟩ d f e c m k tb j.size cw.size
  (by simp[World.shape?,g]) (by simp[World.shape?,p]) q (by simp[World.frozen?,g]) (by simp[World.frozen?,g])
 rw[show([Value.slice (some ⟨a,0,none⟩) d f,Value.slice (some ⟨b,o,none⟩) e c]:List Value).toArray= #[.slice (some ⟨a,0,none⟩) d f,.slice (some ⟨b,o,none⟩) e c]from rfl,this]
 rfl
set_option maxRecDepth 4000 in
theorem Mb{M:Nat→Prop}{h:ac}{s:SliceV}{xs:List (ByteArray×ByteArray)}(T:OwnS eJ 2 ag M h s xs){k:Nat}(hkl:k≤xs.length)(hn:(xs.length+1)*32≤140737488355328){x:ByteArray×ByteArray}{m:Nat}(E:h[m]? =some (.cells (eJ x).toArray ag (0,0)))
  (Z:¬M m) (V:∀b,h.size≤b→M b) {K:SliceV→ac→Prop} (hK:∀s' h',OwnS eJ 2 ag M h' s' (xs.take k++x::xs.drop k)→Upd M h h'→K s' h'):
  HC PG cJ [.slice s.a s.len s.cap,.int .i64 k,.slice (some ⟨m,0,none⟩) 1 1] [.c .slice] K h:=by
 refine mM s k ⟨some ⟨m,0,none⟩,1,1⟩ ?_;unfold ia rp;have p:=T.len;have hcap:=T.cap;have P:SRow h (some ⟨m,0,none⟩) (1*2) (eJ x):=⟨rfl,.inr ⟨_,rfl,rZ E fun i v hi=>by simpa using hi⟩⟩
 refine⟨by omega,ai.2 ?_⟩;refine CondP.intro (fun e=>?_) fun e=>?_
 ·have e:k=xs.length:=by have:=of_decide_eq_true (by simpa using e:decide ((k:Int)=(s.len:Int))=true);omega
  subst e;refine⟨_,P,AppP.own (ys:= [x]) T rfl (by simp) rfl rfl (by omega) (by simp;omega) (V _ (al _)) fun s' h' ho hu=>hK s' h' ?_ hu⟩
  rw[cW,List.drop_length];exact ho
 have hlt:k<xs.length:=by
  rcases cg k xs.length with h|h
  ·exact h
  ·have:((k:Int)==(s.len:Int))=true:=by rw[beq_iff_eq];omega
   rw[this]at e;cases e
 rcases T.blk with h0|⟨b,j,ha,u,hc,hr⟩
 ·omega
 have d:((xs.take k).flatMap eJ).length=k*2:=by rw[jC gS,aP,bH hkl]
 have n:((xs.drop k).flatMap eJ).length=(xs.length-k)*2:=by rw[jC gS,aM]
 have Q:m≠b:=fun e=>Z (e▸u)
 rw[xM (f:=eJ) xs k]at hc;have a:(xs.take k++x::xs.drop k).flatMap eJ=(xs.take k).flatMap eJ++(eJ x++(xs.drop k).flatMap eJ):=by rw[bL,aK]
 have g:=vS (xs.drop k);have c:(eJ x).length=2:=rfl;have y:ce (eJ x)=true:=rfl;generalize hAe:(xs.take k).flatMap eJ=A at d hc a;generalize hBe:(xs.drop k).flatMap eJ=B at n hc a g;generalize eJ x=X at P c E a y;rw[ha];have w1:IntKind.wrap .i64 ((xs.length:Int)+((1:Nat):Int))=((xs.length+1:Nat):Int):=by rw[d8 (by omega)];omega
 have w2:IntKind.wrap .i64 ((k:Int)+((1:Nat):Int))=((k+1:Nat):Int):=by rw[d8 (by omega)];omega
 have w3:IntKind.wrap .i64 (((xs.length+1:Nat):Int)-(k:Int))=((xs.length+1-k:Nat):Int):=by rw[d8 (by omega)];omega
 simp only[w1,w2,w3,aY,p];refine aD (fun hgt=>?_) fun hle=>?_
 ·
  have S:s.cap=xs.length:=by omega
  refine Join.plain ⟨by omega,⟨by omega,by omega,by omega,by omega⟩,fun hin=>?_,fun H=>?_⟩
  ·omega
  ·refine⟨A,_,?_,rfl,by omega,Go.growslice_fits H (by omega),fun D C=>?_⟩
   ·rw[sub_zero]
    exact lx hc (by rw[d];omega) (by simp only[cP,ef];rw[ax,←d,eW (al _),cW])
   ·simp only[aY]at C⊢
    have U:=Upd.hnew No h (A++dq (xs.length+1-k) [.string (⟨#[]⟩:ByteArray),.string (⟨#[]⟩:ByteArray)]++dq (D-(k-0+(xs.length+1-k))) [.string (⟨#[]⟩:ByteArray),.string (⟨#[]⟩:ByteArray)]) ag;have bn:=bE h (A++dq (xs.length+1-k) [.string (⟨#[]⟩:ByteArray),.string (⟨#[]⟩:ByteArray)]++dq (D-(k-0+(xs.length+1-k))) [.string (⟨#[]⟩:ByteArray),.string (⟨#[]⟩:ByteArray)]) ag
    have w:(dq (xs.length+1-k) [.string (⟨#[]⟩:ByteArray),.string (⟨#[]⟩:ByteArray)]).length=(xs.length+1-k)*2:=lZ _ _;have Y:(dq (D-(k-0+(xs.length+1-k))) [.string (⟨#[]⟩:ByteArray),.string (⟨#[]⟩:ByteArray)]).length=(D-(k-0+(xs.length+1-k)))*2:=lZ _ _;have t:k-0+(xs.length+1-k)=xs.length+1:=by omega
    rw[cr];have hsz:h.size≠m:=fun e=>by have:=bo E;omega
    have O:h.size≠b:=fun e=>by have:=bo hc;omega
    have L:=U.get0 hc;have F:=U.get0 E;generalize hnew h _ ag=h9 at U bn L F;rw[t]at C Y⊢;have m1:dD 1 (xs.length+1-k)=1:=bH (by omega);have m2:dD (xs.length-k) (xs.length+1-(k+1))=xs.length-k:=bH (by omega);rw[m1];have W:SRow h9 (some ⟨m,0,none⟩) (1*2) X:=lx F (by rw[c]) (by rw[cP,bj];rw[c];omega)
    refine⟨by omega,?_⟩;rw[ji (by omega)];refine kU W y bn (by simp only[ad,d,w];omega) fun h11 G o=>⟨by omega,?_⟩
    simp only[Bd];rw[ji (by omega),ji (by omega),m2];refine⟨by omega,?_⟩;have z:=o.get L (fun e=>O e.symm)
    have br:SRow h11 (some ⟨b,0+k*2,none⟩) ((xs.length-k)*2) B:=lx z n (by
     rw[aH,ax,←d,g5,←n,gY])
    refine kU br g G ?_ fun h16 I N=>?_
    ·simp only[ad,aP,aM,d,w,c];omega
    ·refine hK _ _ ⟨by simp;omega,gS,C,.inr ⟨h.size,dq (D-(xs.length+1)) [.string (⟨#[]⟩:ByteArray),.string (⟨#[]⟩:ByteArray)],rfl,V _ (al _),?_,by rw[lZ];rfl⟩⟩ ((U.wide.trans (M':=(· =h.size)) o fun b u=>.inl (u▸V _ (al _))).trans (M':=(· =h.size)) N fun b u=>.inl (u▸V _ (al _)))
     rw[I,a];have:=Ir (A:=A) (X:=X) (B:=B) (Z1:=dq (xs.length+1-k) [.string (⟨#[]⟩:ByteArray),.string (⟨#[]⟩:ByteArray)]) (Z2:=dq (D-(xs.length+1)) [.string (⟨#[]⟩:ByteArray),.string (⟨#[]⟩:ByteArray)]) (r:=(xs.length-k)*2) d c (by rw[w,←ge];congr 1;omega);rw[t,←this];simp only[aH,ge,rm]
 ·have S:xs.length+1≤s.cap:=by omega
  refine⟨by omega,?_⟩;simp only[Bd,ef];rw[sub_zero,ji (show s.cap≠k+1 by omega),ji (show s.cap≠k by omega)]
  refine⟨by omega,?_⟩;have hrl:2≤j.length:=by rw[hr];exact pQ _ (by omega)
  refine Ii E hc Q (by rw[cY,ad];omega) ?_;refine ar.2 ⟨by omega,by omega,?_⟩
  have m1:dD 1 (xs.length+1-k)=1:=bH (by omega);have m2:dD (xs.length+1-k) (xs.length+1-(k+1))=xs.length-k:=by
   rw[show xs.length+1-(k+1)=xs.length-k by omega];exact mW (by omega)
  rw[m2];have br:SRow h (some ⟨b,0+k*2,none⟩) ((xs.length-k)*2) B:=lx hc n (by
   rw[aH,ax,←d,g5,←n,gY])
  refine kU br g hc (by simp only[ad,d,n];omega) fun h1 hb1 J=>⟨by omega,?_⟩
  rw[m1];have xr1:SRow h1 (some ⟨m,0,none⟩) (1*2) X:=lx (J.get E Q) (by rw[c]) (by rw[cP,bj];rw[c];omega);refine kU xr1 y hb1 (by simp only[ad,aP,aM,d,n];omega) fun h2 hb2 hu2=>?_
  refine hK _ _ ⟨by simp;omega,gS,S,.inr ⟨b,j.drop 2,rfl,u,?_,?_⟩⟩ ((J.mono fun _ e=>.inl (e▸u)).tr (hu2.mono fun _ e=>.inl (e▸u)))
  ·rw[hb2,a]
   have:=Md (A:=A) (X:=X) (B:=B) (R:=j) (q:=2) (r:=(xs.length-k)*2) d n hrl;rw[←this];simp only[aH,ge,rm]
  ·rw[aM,hr]
   simp only;rw[p];omega
abbrev rA(x:Option Addr):List Value:= [.pointer x]
theorem rz(x:Option Addr):(rA x).length=1∧0<1:=⟨rfl,by omega⟩
theorem Eb:∀xs:List (Option Addr),ce (xs.flatMap rA)=true
 | []=>rfl
 |x::xs=>by rw[aK];exact pm rfl (Eb xs)
theorem Ij{h:ac}{a b o d f e c:Nat}{j cw:Array Value}{k tb:TypeId}(g:h[a]? =some (.cells j k (0,0))) (p:h[b]? =some (.cells cw tb (0,0))) (m:a≠b) (q:cw.size≠0) {K:Bool→ac→Prop} (n:K false h):
  HC PG gX [.slice (some ⟨a,0,none⟩) d f,.slice (some ⟨b,o,none⟩) e c] [.c .bool] K h:=by
 refine⟨fun w i=>.inr ⟨.bool false,w,?_,Tame.refl w,false,rfl,i▸n⟩⟩
 subst i;rw[qY];have:=Lib.run_overlaps_apart (P:=PG) w rx xe bC (by kernel_rfl) (bM PG bC) (qQ (by kernel_rfl)) ⟨a,0,none⟩ ⟨b,o,none⟩ d f e c m k tb j.size cw.size
  (by simp[World.shape?,g]) (by simp[World.shape?,p]) q (by simp[World.frozen?,g]) (by simp[World.frozen?,g])
 rw[show([Value.slice (some ⟨a,0,none⟩) d f,Value.slice (some ⟨b,o,none⟩) e c]:List Value).toArray= #[.slice (some ⟨a,0,none⟩) d f,.slice (some ⟨b,o,none⟩) e c]from rfl,this]
 rfl
set_option maxRecDepth 4000 in
theorem Mc{M:Nat→Prop}{h:ac}{s:SliceV}{xs:List (Option Addr)}(T:OwnS rA 1 bC M h s xs){k:Nat}(hkl:k≤xs.length)(hn:(xs.length+1)*8≤140737488355328){x:Option Addr}{m:Nat}(E:h[m]? =some (.cells (rA x).toArray bC (0,0)))
  (Z:¬M m) (V:∀b,h.size≤b→M b) {K:SliceV→ac→Prop} (hK:∀s' h',OwnS rA 1 bC M h' s' (xs.take k++x::xs.drop k)→Upd M h h'→K s' h'):
  HC PG cB [.slice s.a s.len s.cap,.int .i64 k,.slice (some ⟨m,0,none⟩) 1 1] [.c .slice] K h:=by
 refine kX s k ⟨some ⟨m,0,none⟩,1,1⟩ ?_;unfold gb;have p:=T.len;have hcap:=T.cap;have P:SRow h (some ⟨m,0,none⟩) (1*1) (rA x):=⟨rfl,.inr ⟨_,rfl,rZ E fun i v hi=>by simpa using hi⟩⟩
 refine⟨by omega,ai.2 ?_⟩;refine CondP.intro (fun e=>?_) fun e=>?_
 ·have e:k=xs.length:=by have:=of_decide_eq_true (by simpa using e:decide ((k:Int)=(s.len:Int))=true);omega
  subst e;refine⟨_,P,AppP.own (ys:= [x]) T rfl (by simp) rfl rfl (by omega) (by simp;omega) (V _ (al _)) fun s' h' ho hu=>hK s' h' ?_ hu⟩
  rw[cW,List.drop_length];exact ho
 have hlt:k<xs.length:=by
  rcases cg k xs.length with h|h
  ·exact h
  ·have:((k:Int)==(s.len:Int))=true:=by rw[beq_iff_eq];omega
   rw[this]at e;cases e
 rcases T.blk with h0|⟨b,j,ha,u,hc,hr⟩
 ·omega
 have d:((xs.take k).flatMap rA).length=k*1:=by rw[jC rz,aP,bH hkl]
 have n:((xs.drop k).flatMap rA).length=(xs.length-k)*1:=by rw[jC rz,aM]
 have Q:m≠b:=fun e=>Z (e▸u)
 rw[xM (f:=rA) xs k]at hc;have a:(xs.take k++x::xs.drop k).flatMap rA=(xs.take k).flatMap rA++(rA x++(xs.drop k).flatMap rA):=by rw[bL,aK]
 have g:=Eb (xs.drop k);have c:(rA x).length=1:=rfl;have y:ce (rA x)=true:=rfl;generalize hAe:(xs.take k).flatMap rA=A at d hc a;generalize hBe:(xs.drop k).flatMap rA=B at n hc a g;generalize rA x=X at P c E a y;rw[ha];have w1:IntKind.wrap .i64 ((xs.length:Int)+((1:Nat):Int))=((xs.length+1:Nat):Int):=by rw[d8 (by omega)];omega
 have w2:IntKind.wrap .i64 ((k:Int)+((1:Nat):Int))=((k+1:Nat):Int):=by rw[d8 (by omega)];omega
 have w3:IntKind.wrap .i64 (((xs.length+1:Nat):Int)-(k:Int))=((xs.length+1-k:Nat):Int):=by rw[d8 (by omega)];omega
 simp only[w1,w2,w3,aY,p];refine aD (fun hgt=>?_) fun hle=>?_
 ·
  have S:s.cap=xs.length:=by omega
  refine Join.plain ⟨by omega,⟨by omega,by omega,by omega,by omega⟩,fun hin=>?_,fun H=>?_⟩
  ·omega
  ·refine⟨A,_,?_,rfl,by omega,Go.growslice_fits H (by omega),fun D C=>?_⟩
   ·rw[sub_zero]
    exact lx hc (by rw[d];omega) (by simp only[cP,ef];rw[ax,←d,eW (al _),cW])
   ·simp only[aY]at C⊢
    have U:=Upd.hnew No h (A++dq (xs.length+1-k) [.pointer none]++dq (D-(k-0+(xs.length+1-k))) [.pointer none]) bC;have bn:=bE h (A++dq (xs.length+1-k) [.pointer none]++dq (D-(k-0+(xs.length+1-k))) [.pointer none]) bC;have w:(dq (xs.length+1-k) [.pointer none]).length=(xs.length+1-k)*1:=lZ _ _;have Y:(dq (D-(k-0+(xs.length+1-k))) [.pointer none]).length=(D-(k-0+(xs.length+1-k)))*1:=lZ _ _
    have t:k-0+(xs.length+1-k)=xs.length+1:=by omega
    rw[cr];have hsz:h.size≠m:=fun e=>by have:=bo E;omega
    have O:h.size≠b:=fun e=>by have:=bo hc;omega
    have L:=U.get0 hc;have F:=U.get0 E;generalize hnew h _ bC=h9 at U bn L F;rw[t]at C Y⊢;have m1:dD 1 (xs.length+1-k)=1:=bH (by omega);have m2:dD (xs.length-k) (xs.length+1-(k+1))=xs.length-k:=bH (by omega);rw[m1];have W:SRow h9 (some ⟨m,0,none⟩) (1*1) X:=lx F (by rw[c]) (by rw[cP,bj];rw[c];omega)
    refine⟨by omega,?_⟩;rw[ji (by omega)];refine kU W y bn (by simp only[ad,d,w];omega) fun h11 G o=>⟨by omega,?_⟩
    simp only[Bd];rw[ji (by omega),ji (by omega),m2];refine⟨by omega,?_⟩;have z:=o.get L (fun e=>O e.symm)
    have br:SRow h11 (some ⟨b,0+k*1,none⟩) ((xs.length-k)*1) B:=lx z n (by
     rw[aH,ax,←d,g5,←n,gY])
    refine kU br g G ?_ fun h16 I N=>?_
    ·simp only[ad,aP,aM,d,w,c];omega
    ·refine hK _ _ ⟨by simp;omega,rz,C,.inr ⟨h.size,dq (D-(xs.length+1)) [.pointer none],rfl,V _ (al _),?_,by rw[lZ];rfl⟩⟩ ((U.wide.trans (M':=(· =h.size)) o fun b u=>.inl (u▸V _ (al _))).trans (M':=(· =h.size)) N fun b u=>.inl (u▸V _ (al _)))
     rw[I,a];have:=Ir (A:=A) (X:=X) (B:=B) (Z1:=dq (xs.length+1-k) [.pointer none]) (Z2:=dq (D-(xs.length+1)) [.pointer none]) (r:=(xs.length-k)*1) d c (by rw[w,←ge];congr 1;omega);rw[t,←this];simp only[aH,ge,rm]
 ·have S:xs.length+1≤s.cap:=by omega
  refine⟨by omega,?_⟩;simp only[Bd,ef];rw[sub_zero,ji (show s.cap≠k+1 by omega),ji (show s.cap≠k by omega)]
  refine⟨by omega,?_⟩;have hrl:1≤j.length:=by rw[hr];exact pQ _ (by omega)
  refine Ij E hc Q (by rw[cY,ad];omega) ?_;refine ar.2 ⟨by omega,by omega,?_⟩
  have m1:dD 1 (xs.length+1-k)=1:=bH (by omega);have m2:dD (xs.length+1-k) (xs.length+1-(k+1))=xs.length-k:=by
   rw[show xs.length+1-(k+1)=xs.length-k by omega];exact mW (by omega)
  rw[m2];have br:SRow h (some ⟨b,0+k*1,none⟩) ((xs.length-k)*1) B:=lx hc n (by
   rw[aH,ax,←d,g5,←n,gY])
  refine kU br g hc (by simp only[ad,d,n];omega) fun h1 hb1 J=>⟨by omega,?_⟩
  rw[m1];have xr1:SRow h1 (some ⟨m,0,none⟩) (1*1) X:=lx (J.get E Q) (by rw[c]) (by rw[cP,bj];rw[c];omega);refine kU xr1 y hb1 (by simp only[ad,aP,aM,d,n];omega) fun h2 hb2 hu2=>?_
  refine hK _ _ ⟨by simp;omega,rz,S,.inr ⟨b,j.drop 1,rfl,u,?_,?_⟩⟩ ((J.mono fun _ e=>.inl (e▸u)).tr (hu2.mono fun _ e=>.inl (e▸u)))
  ·rw[hb2,a]
   have:=Md (A:=A) (X:=X) (B:=B) (R:=j) (q:=1) (r:=(xs.length-k)*1) d n hrl;rw[←this];simp only[aH,ge,rm]
  ·rw[aM,hr]
   simp only;rw[p];omega
abbrev rq(x:Option Addr):List Value:= [.pointer x]
theorem pi(x:Option Addr):(rq x).length=1∧0<1:=⟨rfl,by omega⟩
theorem Ea:∀xs:List (Option Addr),ce (xs.flatMap rq)=true
 | []=>rfl
 |x::xs=>by rw[aK];exact pm rfl (Ea xs)
theorem Ih{h:ac}{a b o d f e c:Nat}{j cw:Array Value}{k tb:TypeId}(g:h[a]? =some (.cells j k (0,0))) (p:h[b]? =some (.cells cw tb (0,0))) (m:a≠b) (q:cw.size≠0) {K:Bool→ac→Prop} (n:K false h):
  HC PG gv [.slice (some ⟨a,0,none⟩) d f,.slice (some ⟨b,o,none⟩) e c] [.c .bool] K h:=by
 refine⟨fun w i=>.inr ⟨.bool false,w,?_,Tame.refl w,false,rfl,i▸n⟩⟩
 subst i;rw[qk];have:=Lib.run_overlaps_apart (P:=PG) w p7 xe bq (by kernel_rfl) (bM PG bq) (qQ (by kernel_rfl)) ⟨a,0,none⟩ ⟨b,o,none⟩ d f e c m k tb j.size cw.size
  (by simp[World.shape?,g]) (by simp[World.shape?,p]) q (by simp[World.frozen?,g]) (by simp[World.frozen?,g])
 rw[show([Value.slice (some ⟨a,0,none⟩) d f,Value.slice (some ⟨b,o,none⟩) e c]:List Value).toArray= #[.slice (some ⟨a,0,none⟩) d f,.slice (some ⟨b,o,none⟩) e c]from rfl,this]
 rfl
set_option maxRecDepth 4000 in
theorem Ma{M:Nat→Prop}{h:ac}{s:SliceV}{xs:List (Option Addr)}(T:OwnS rq 1 bq M h s xs){k:Nat}(hkl:k≤xs.length)(hn:(xs.length+1)*8≤140737488355328){x:Option Addr}{m:Nat}(E:h[m]? =some (.cells (rq x).toArray bq (0,0)))
  (Z:¬M m) (V:∀b,h.size≤b→M b) {K:SliceV→ac→Prop} (hK:∀s' h',OwnS rq 1 bq M h' s' (xs.take k++x::xs.drop k)→Upd M h h'→K s' h'):
  HC PG dJ [.slice s.a s.len s.cap,.int .i64 k,.slice (some ⟨m,0,none⟩) 1 1] [.c .slice] K h:=by
 refine j4 s k ⟨some ⟨m,0,none⟩,1,1⟩ ?_;unfold fC;have p:=T.len;have hcap:=T.cap;have P:SRow h (some ⟨m,0,none⟩) (1*1) (rq x):=⟨rfl,.inr ⟨_,rfl,rZ E fun i v hi=>by simpa using hi⟩⟩
 refine⟨by omega,ai.2 ?_⟩;refine CondP.intro (fun e=>?_) fun e=>?_
 ·have e:k=xs.length:=by have:=of_decide_eq_true (by simpa using e:decide ((k:Int)=(s.len:Int))=true);omega
  subst e;refine⟨_,P,AppP.own (ys:= [x]) T rfl (by simp) rfl rfl (by omega) (by simp;omega) (V _ (al _)) fun s' h' ho hu=>hK s' h' ?_ hu⟩
  rw[cW,List.drop_length];exact ho
 have hlt:k<xs.length:=by
  rcases cg k xs.length with h|h
  ·exact h
  ·have:((k:Int)==(s.len:Int))=true:=by rw[beq_iff_eq];omega
   rw[this]at e;cases e
 rcases T.blk with h0|⟨b,j,ha,u,hc,hr⟩
 ·omega
 have d:((xs.take k).flatMap rq).length=k*1:=by rw[jC pi,aP,bH hkl]
 have n:((xs.drop k).flatMap rq).length=(xs.length-k)*1:=by rw[jC pi,aM]
 have Q:m≠b:=fun e=>Z (e▸u)
 rw[xM (f:=rq) xs k]at hc;have a:(xs.take k++x::xs.drop k).flatMap rq=(xs.take k).flatMap rq++(rq x++(xs.drop k).flatMap rq):=by rw[bL,aK]
 have g:=Ea (xs.drop k);have c:(rq x).length=1:=rfl;have y:ce (rq x)=true:=rfl;generalize hAe:(xs.take k).flatMap rq=A at d hc a;generalize hBe:(xs.drop k).flatMap rq=B at n hc a g;generalize rq x=X at P c E a y;rw[ha];have w1:IntKind.wrap .i64 ((xs.length:Int)+((1:Nat):Int))=((xs.length+1:Nat):Int):=by rw[d8 (by omega)];omega
 have w2:IntKind.wrap .i64 ((k:Int)+((1:Nat):Int))=((k+1:Nat):Int):=by rw[d8 (by omega)];omega
 have w3:IntKind.wrap .i64 (((xs.length+1:Nat):Int)-(k:Int))=((xs.length+1-k:Nat):Int):=by rw[d8 (by omega)];omega
 simp only[w1,w2,w3,aY,p];refine aD (fun hgt=>?_) fun hle=>?_
 ·
  have S:s.cap=xs.length:=by omega
  refine Join.plain ⟨by omega,⟨by omega,by omega,by omega,by omega⟩,fun hin=>?_,fun H=>?_⟩
  ·omega
  ·refine⟨A,_,?_,rfl,by omega,Go.growslice_fits H (by omega),fun D C=>?_⟩
   ·rw[sub_zero]
    exact lx hc (by rw[d];omega) (by simp only[cP,ef];rw[ax,←d,eW (al _),cW])
   ·simp only[aY]at C⊢
    have U:=Upd.hnew No h (A++dq (xs.length+1-k) [.pointer none]++dq (D-(k-0+(xs.length+1-k))) [.pointer none]) bq;have bn:=bE h (A++dq (xs.length+1-k) [.pointer none]++dq (D-(k-0+(xs.length+1-k))) [.pointer none]) bq;have w:(dq (xs.length+1-k) [.pointer none]).length=(xs.length+1-k)*1:=lZ _ _;have Y:(dq (D-(k-0+(xs.length+1-k))) [.pointer none]).length=(D-(k-0+(xs.length+1-k)))*1:=lZ _ _
    have t:k-0+(xs.length+1-k)=xs.length+1:=by omega
    rw[cr];have hsz:h.size≠m:=fun e=>by have:=bo E;omega
    have O:h.size≠b:=fun e=>by have:=bo hc;omega
    have L:=U.get0 hc;have F:=U.get0 E;generalize hnew h _ bq=h9 at U bn L F;rw[t]at C Y⊢;have m1:dD 1 (xs.length+1-k)=1:=bH (by omega);have m2:dD (xs.length-k) (xs.length+1-(k+1))=xs.length-k:=bH (by omega);rw[m1];have W:SRow h9 (some ⟨m,0,none⟩) (1*1) X:=lx F (by rw[c]) (by rw[cP,bj];rw[c];omega)
    refine⟨by omega,?_⟩;rw[ji (by omega)];refine kU W y bn (by simp only[ad,d,w];omega) fun h11 G o=>⟨by omega,?_⟩
    simp only[Bd];rw[ji (by omega),ji (by omega),m2];refine⟨by omega,?_⟩;have z:=o.get L (fun e=>O e.symm)
    have br:SRow h11 (some ⟨b,0+k*1,none⟩) ((xs.length-k)*1) B:=lx z n (by
     rw[aH,ax,←d,g5,←n,gY])
    refine kU br g G ?_ fun h16 I N=>?_
    ·simp only[ad,aP,aM,d,w,c];omega
    ·refine hK _ _ ⟨by simp;omega,pi,C,.inr ⟨h.size,dq (D-(xs.length+1)) [.pointer none],rfl,V _ (al _),?_,by rw[lZ];rfl⟩⟩ ((U.wide.trans (M':=(· =h.size)) o fun b u=>.inl (u▸V _ (al _))).trans (M':=(· =h.size)) N fun b u=>.inl (u▸V _ (al _)))
     rw[I,a];have:=Ir (A:=A) (X:=X) (B:=B) (Z1:=dq (xs.length+1-k) [.pointer none]) (Z2:=dq (D-(xs.length+1)) [.pointer none]) (r:=(xs.length-k)*1) d c (by rw[w,←ge];congr 1;omega);rw[t,←this];simp only[aH,ge,rm]
 ·have S:xs.length+1≤s.cap:=by omega
  refine⟨by omega,?_⟩;simp only[Bd,ef];rw[sub_zero,ji (show s.cap≠k+1 by omega),ji (show s.cap≠k by omega)]
  refine⟨by omega,?_⟩;have hrl:1≤j.length:=by rw[hr];exact pQ _ (by omega)
  refine Ih E hc Q (by rw[cY,ad];omega) ?_;refine ar.2 ⟨by omega,by omega,?_⟩
  have m1:dD 1 (xs.length+1-k)=1:=bH (by omega);have m2:dD (xs.length+1-k) (xs.length+1-(k+1))=xs.length-k:=by
   rw[show xs.length+1-(k+1)=xs.length-k by omega];exact mW (by omega)
  rw[m2];have br:SRow h (some ⟨b,0+k*1,none⟩) ((xs.length-k)*1) B:=lx hc n (by
   rw[aH,ax,←d,g5,←n,gY])
  refine kU br g hc (by simp only[ad,d,n];omega) fun h1 hb1 J=>⟨by omega,?_⟩
  rw[m1];have xr1:SRow h1 (some ⟨m,0,none⟩) (1*1) X:=lx (J.get E Q) (by rw[c]) (by rw[cP,bj];rw[c];omega);refine kU xr1 y hb1 (by simp only[ad,aP,aM,d,n];omega) fun h2 hb2 hu2=>?_
  refine hK _ _ ⟨by simp;omega,pi,S,.inr ⟨b,j.drop 1,rfl,u,?_,?_⟩⟩ ((J.mono fun _ e=>.inl (e▸u)).tr (hu2.mono fun _ e=>.inl (e▸u)))
  ·rw[hb2,a]
   have:=Md (A:=A) (X:=X) (B:=B) (R:=j) (q:=1) (r:=(xs.length-k)*1) d n hrl;rw[←this];simp only[aH,ge,rm]
  ·rw[aM,hr]
   simp only;rw[p];omega
end Go.Proofs
namespace Go.Proofs
open Go Go.Lift
theorem vf{W:Nat→Prop}{h:ac}{s:SliceV}{xs:List (ByteArray×ByteArray)}(d:Sl eJ 2 W h s xs)(m:xs.length*32≤140737488355328){K:SliceV→ac→Prop}
  (g:∀s' h',OwnS eJ 2 ag (fun b=>h.size≤b) h' s' xs→Upd No h h'→K s' h'):HC PG cz [.slice s.a s.len s.cap] [.c .slice] K h:=by
 refine nr s ?_;unfold ir rp;refine CondP.intro (fun c=>?_) (fun k=>?_)
 ·have c:s.a=none:=by simpa using c
  have hx:xs= []:=by
   by_cases hx:xs= []
   ·exact hx
   ·obtain⟨a,e,_⟩:=d.row hx
    rw[c]at e;cases e
  subst hx;exact g _ _ (OwnS.nil gS) (Upd.refl _ _)
 ·have j:=d.upd (Upd.hnew No h [] ag) (fun _ h=>h.elim)
  refine⟨_,j.srow,?_⟩;refine AppP.own (f:=eJ) (M:=fun b=>h.size≤b) (xs:= []) (ys:=xs) ⟨rfl,gS,al _,.inl rfl⟩ d.len rfl (vS xs) rfl (by omega) (by simpa using m) (by rw[gt];omega) fun s' h' i o=>?_
  exact g _ _ i ((Upd.hnew No h [] ag).trans o fun b n=>.inr n)
theorem Mv{M:Nat→Prop}{h:ac}{s:SliceV}{xs:List (ByteArray×ByteArray)}(y:OwnS eJ 2 ag M h s xs){k:Nat}(x:k<xs.length)(N:xs.length≤4398046511104)
  {K:SliceV→ac→Prop}(H:∀s' h',OwnS eJ 2 ag M h' s' (xs.take k++xs.drop (k+1))→Upd M h h'→K s' h'):
  HC PG eH [.slice s.a s.len s.cap,.int .i64 k,.int .i64 ((k+1:Nat):Int)] [.c .slice] K h:=by
 refine mN s k ((k+1:Nat):Int) ?_;unfold ic rp;have d:=y.len;have C:=y.cap;rcases y.blk with O|⟨b,a,E,w,hc,F⟩
 ·omega
 have p:((xs.take k).flatMap eJ).length=k*2:=by rw[jC gS,aP,bH (by omega)]
 have m:((xs.drop (k+1)).flatMap eJ).length=(xs.length-(k+1))*2:=by rw[jC gS,aM]
 have J:xs.flatMap eJ=(xs.take k).flatMap eJ++(eJ xs[k]++(xs.drop (k+1)).flatMap eJ):=by
  rw[←aK,←jl x];exact xM xs k
 rw[J]at hc;have f:=vS (xs.drop (k+1));have c:(xs.take k++xs.drop (k+1)).flatMap eJ=(xs.take k).flatMap eJ++(xs.drop (k+1)).flatMap eJ:=bL;have G:(eJ xs[k]).length=2:=rfl;generalize (xs.take k).flatMap eJ=A at p hc c;generalize (xs.drop (k+1)).flatMap eJ=B at m hc f c;generalize eJ xs[k]=X at G hc;rw[E];simp only[d,aY];refine⟨by omega,by omega,by omega,CondP.intro (fun e=>?_) fun _=>?_⟩
 ·have:(k:Int)=((k+1:Nat):Int):=by simpa using e
  omega
 refine Join.plain ⟨by omega,by omega,B,?_,?_⟩
 ·by_cases j:xs.length=k+1
  ·exact⟨m,.inl (aE.1 (by rw[m,j,iz,wF]))⟩
  rw[ji (by omega)];refine lx hc m ?_;have:(A++X).length=0+(k+1)*2:=by rw[ad];omega
  rw[show A++(X++B)++a=(A++X)++(B++a) by simp only[ax],cj this,cF m]
 ·rw[sub_zero]
  refine MB hc (by simp only[ad];omega) (by omega) f fun P i t=>?_
  have u:a.length=(s.cap-xs.length)*2:=by rw[F,d]
  refine⟨by dsimp only;omega,by dsimp only;omega,?_⟩
  simp only[Bd];rw[ji (by omega)];have I:xs.length-(k-0+(xs.length-(k+1)))=1:=by omega
  have q:(A++(X++B)++a).drop ((k-0)*2+B.length)=(X++B).drop B.length++a:=by
   rw[ax,←cG,cj (show A.length=(k-0)*2 by rw[p,ef]),eX (by rw[ad];omega)]
  have z:(A++(X++B)++a).take ((k-0)*2)=A:=by rw[ax,cF (show A.length=(k-0)*2 by rw[p,ef])]
  rw[q,z]at i;have n:((X++B).drop B.length).length=2:=by rw[aM,ad];omega
  generalize (X++B).drop B.length=D at n i;rw[I];have L:(dq 1 [.string (⟨#[]⟩:ByteArray),.string (⟨#[]⟩:ByteArray)]).length=2:=rfl;have g:(A++B).length=0+(k-0+(xs.length-(k+1)))*2:=by rw[ad,p,m];omega
  refine D8 i (by simp only[ad]at g⊢;omega) fun Q o v=>?_
  rw[cF g,←cG,cj g]at o;refine H _ _ ⟨by simp;omega,gS,by simp only;omega,.inr ⟨b,dq 1 [.string (⟨#[]⟩:ByteArray),.string (⟨#[]⟩:ByteArray)]++(D++a).drop (dq 1 [.string (⟨#[]⟩:ByteArray),.string (⟨#[]⟩:ByteArray)]).length,rfl,w,?_,?_⟩⟩ ((t.mono fun _ e=>.inl (e▸w)).tr (v.mono fun _ e=>.inl (e▸w)))
  ·rw[o,c];simp only[ax]
  ·simp only[ad,aM,L,n,u]
   omega
theorem Cq{W:Nat→Prop}{h:ac}{s:SliceV}{xs:List (Option Addr)}(d:Sl rA 1 W h s xs)(m:xs.length*8≤140737488355328){K:SliceV→ac→Prop}
  (g:∀s' h',OwnS rA 1 bC (fun b=>h.size≤b) h' s' xs→Upd No h h'→K s' h'):HC PG dg [.slice s.a s.len s.cap] [.c .slice] K h:=by
 refine lA s ?_;unfold gk;refine CondP.intro (fun c=>?_) (fun k=>?_)
 ·have c:s.a=none:=by simpa using c
  have hx:xs= []:=by
   by_cases hx:xs= []
   ·exact hx
   ·obtain⟨a,e,_⟩:=d.row hx
    rw[c]at e;cases e
  subst hx;exact g _ _ (OwnS.nil rz) (Upd.refl _ _)
 ·have j:=d.upd (Upd.hnew No h [] bC) (fun _ h=>h.elim)
  refine⟨_,j.srow,?_⟩;refine AppP.own (f:=rA) (M:=fun b=>h.size≤b) (xs:= []) (ys:=xs) ⟨rfl,rz,al _,.inl rfl⟩ d.len rfl (Eb xs) rfl (by omega) (by simpa using m) (by rw[gt];omega) fun s' h' i o=>?_
  exact g _ _ i ((Upd.hnew No h [] bC).trans o fun b n=>.inr n)
theorem Mw{M:Nat→Prop}{h:ac}{s:SliceV}{xs:List (Option Addr)}(y:OwnS rA 1 bC M h s xs){k:Nat}(x:k<xs.length)(N:xs.length≤4398046511104)
  {K:SliceV→ac→Prop}(H:∀s' h',OwnS rA 1 bC M h' s' (xs.take k++xs.drop (k+1))→Upd M h h'→K s' h'):
  HC PG dU [.slice s.a s.len s.cap,.int .i64 k,.int .i64 ((k+1:Nat):Int)] [.c .slice] K h:=by
 refine kZ s k ((k+1:Nat):Int) ?_;unfold gc;have d:=y.len;have C:=y.cap;rcases y.blk with O|⟨b,a,E,w,hc,F⟩
 ·omega
 have p:((xs.take k).flatMap rA).length=k*1:=by rw[jC rz,aP,bH (by omega)]
 have m:((xs.drop (k+1)).flatMap rA).length=(xs.length-(k+1))*1:=by rw[jC rz,aM]
 have J:xs.flatMap rA=(xs.take k).flatMap rA++(rA xs[k]++(xs.drop (k+1)).flatMap rA):=by
  rw[←aK,←jl x];exact xM xs k
 rw[J]at hc;have f:=Eb (xs.drop (k+1));have c:(xs.take k++xs.drop (k+1)).flatMap rA=(xs.take k).flatMap rA++(xs.drop (k+1)).flatMap rA:=bL;have G:(rA xs[k]).length=1:=rfl;generalize (xs.take k).flatMap rA=A at p hc c;generalize (xs.drop (k+1)).flatMap rA=B at m hc f c;generalize rA xs[k]=X at G hc;rw[E];simp only[d,aY];refine⟨by omega,by omega,by omega,CondP.intro (fun e=>?_) fun _=>?_⟩
 ·have:(k:Int)=((k+1:Nat):Int):=by simpa using e
  omega
 refine Join.plain ⟨by omega,by omega,B,?_,?_⟩
 ·by_cases j:xs.length=k+1
  ·exact⟨m,.inl (aE.1 (by rw[m,j,iz,wF]))⟩
  rw[ji (by omega)];refine lx hc m ?_;have:(A++X).length=0+(k+1)*1:=by rw[ad];omega
  rw[show A++(X++B)++a=(A++X)++(B++a) by simp only[ax],cj this,cF m]
 ·rw[sub_zero]
  refine MB hc (by simp only[ad];omega) (by omega) f fun P i t=>?_
  have u:a.length=(s.cap-xs.length)*1:=by rw[F,d]
  refine⟨by dsimp only;omega,by dsimp only;omega,?_⟩
  simp only[Bd];rw[ji (by omega)];have I:xs.length-(k-0+(xs.length-(k+1)))=1:=by omega
  have q:(A++(X++B)++a).drop ((k-0)*1+B.length)=(X++B).drop B.length++a:=by
   rw[ax,←cG,cj (show A.length=(k-0)*1 by rw[p,ef]),eX (by rw[ad];omega)]
  have z:(A++(X++B)++a).take ((k-0)*1)=A:=by rw[ax,cF (show A.length=(k-0)*1 by rw[p,ef])]
  rw[q,z]at i;have n:((X++B).drop B.length).length=1:=by rw[aM,ad];omega
  generalize (X++B).drop B.length=D at n i;rw[I];have L:(dq 1 [.pointer none]).length=1:=rfl;have g:(A++B).length=0+(k-0+(xs.length-(k+1)))*1:=by rw[ad,p,m];omega
  refine D8 i (by simp only[ad]at g⊢;omega) fun Q o v=>?_
  rw[cF g,←cG,cj g]at o;refine H _ _ ⟨by simp;omega,rz,by simp only;omega,.inr ⟨b,dq 1 [.pointer none]++(D++a).drop (dq 1 [.pointer none]).length,rfl,w,?_,?_⟩⟩ ((t.mono fun _ e=>.inl (e▸w)).tr (v.mono fun _ e=>.inl (e▸w)))
  ·rw[o,c];simp only[ax]
  ·simp only[ad,aM,L,n,u]
   omega
theorem HA{W:Nat→Prop}{h:ac}{s:SliceV}{xs:List (Option Addr)}(d:Sl rq 1 W h s xs)(m:xs.length*8≤140737488355328){K:SliceV→ac→Prop}
  (g:∀s' h',OwnS rq 1 bq (fun b=>h.size≤b) h' s' xs→Upd No h h'→K s' h'):HC PG cQ [.slice s.a s.len s.cap] [.c .slice] K h:=by
 refine kJ s ?_;unfold fQ;refine CondP.intro (fun c=>?_) (fun k=>?_)
 ·have c:s.a=none:=by simpa using c
  have hx:xs= []:=by
   by_cases hx:xs= []
   ·exact hx
   ·obtain⟨a,e,_⟩:=d.row hx
    rw[c]at e;cases e
  subst hx;exact g _ _ (OwnS.nil pi) (Upd.refl _ _)
 ·have j:=d.upd (Upd.hnew No h [] bq) (fun _ h=>h.elim)
  refine⟨_,j.srow,?_⟩;refine AppP.own (f:=rq) (M:=fun b=>h.size≤b) (xs:= []) (ys:=xs) ⟨rfl,pi,al _,.inl rfl⟩ d.len rfl (Ea xs) rfl (by omega) (by simpa using m) (by rw[gt];omega) fun s' h' i o=>?_
  exact g _ _ i ((Upd.hnew No h [] bq).trans o fun b n=>.inr n)
theorem Mu{M:Nat→Prop}{h:ac}{s:SliceV}{xs:List (Option Addr)}(y:OwnS rq 1 bq M h s xs){k:Nat}(x:k<xs.length)(N:xs.length≤4398046511104)
  {K:SliceV→ac→Prop}(H:∀s' h',OwnS rq 1 bq M h' s' (xs.take k++xs.drop (k+1))→Upd M h h'→K s' h'):
  HC PG dK [.slice s.a s.len s.cap,.int .i64 k,.int .i64 ((k+1:Nat):Int)] [.c .slice] K h:=by
 refine j5 s k ((k+1:Nat):Int) ?_;unfold fE;have d:=y.len;have C:=y.cap;rcases y.blk with O|⟨b,a,E,w,hc,F⟩
 ·omega
 have p:((xs.take k).flatMap rq).length=k*1:=by rw[jC pi,aP,bH (by omega)]
 have m:((xs.drop (k+1)).flatMap rq).length=(xs.length-(k+1))*1:=by rw[jC pi,aM]
 have J:xs.flatMap rq=(xs.take k).flatMap rq++(rq xs[k]++(xs.drop (k+1)).flatMap rq):=by
  rw[←aK,←jl x];exact xM xs k
 rw[J]at hc;have f:=Ea (xs.drop (k+1));have c:(xs.take k++xs.drop (k+1)).flatMap rq=(xs.take k).flatMap rq++(xs.drop (k+1)).flatMap rq:=bL;have G:(rq xs[k]).length=1:=rfl;generalize (xs.take k).flatMap rq=A at p hc c;generalize (xs.drop (k+1)).flatMap rq=B at m hc f c;generalize rq xs[k]=X at G hc;rw[E];simp only[d,aY];refine⟨by omega,by omega,by omega,CondP.intro (fun e=>?_) fun _=>?_⟩
 ·have:(k:Int)=((k+1:Nat):Int):=by simpa using e
  omega
 refine Join.plain ⟨by omega,by omega,B,?_,?_⟩
 ·by_cases j:xs.length=k+1
  ·exact⟨m,.inl (aE.1 (by rw[m,j,iz,wF]))⟩
  rw[ji (by omega)];refine lx hc m ?_;have:(A++X).length=0+(k+1)*1:=by rw[ad];omega
  rw[show A++(X++B)++a=(A++X)++(B++a) by simp only[ax],cj this,cF m]
 ·rw[sub_zero]
  refine MB hc (by simp only[ad];omega) (by omega) f fun P i t=>?_
  have u:a.length=(s.cap-xs.length)*1:=by rw[F,d]
  refine⟨by dsimp only;omega,by dsimp only;omega,?_⟩
  simp only[Bd];rw[ji (by omega)];have I:xs.length-(k-0+(xs.length-(k+1)))=1:=by omega
  have q:(A++(X++B)++a).drop ((k-0)*1+B.length)=(X++B).drop B.length++a:=by
   rw[ax,←cG,cj (show A.length=(k-0)*1 by rw[p,ef]),eX (by rw[ad];omega)]
  have z:(A++(X++B)++a).take ((k-0)*1)=A:=by rw[ax,cF (show A.length=(k-0)*1 by rw[p,ef])]
  rw[q,z]at i;have n:((X++B).drop B.length).length=1:=by rw[aM,ad];omega
  generalize (X++B).drop B.length=D at n i;rw[I];have L:(dq 1 [.pointer none]).length=1:=rfl;have g:(A++B).length=0+(k-0+(xs.length-(k+1)))*1:=by rw[ad,p,m];omega
  refine D8 i (by simp only[ad]at g⊢;omega) fun Q o v=>?_
  rw[cF g,←cG,cj g]at o;refine H _ _ ⟨by simp;omega,pi,by simp only;omega,.inr ⟨b,dq 1 [.pointer none]++(D++a).drop (dq 1 [.pointer none]).length,rfl,w,?_,?_⟩⟩ ((t.mono fun _ e=>.inl (e▸w)).tr (v.mono fun _ e=>.inl (e▸w)))
  ·rw[o,c];simp only[ax]
  ·simp only[ad,aM,L,n,u]
   omega
end Go.Proofs
namespace Go.Proofs
open Go.Lift
abbrev Pr:=ByteArray×ByteArray
theorem Cr{a b:ByteArray}:a.toList=b.toList↔a=b:=by
 constructor
 ·intro h
  rw[ByteArray.toList_eq,ByteArray.toList_eq]at h;cases a;cases b;simp at h;subst h;rfl
 ·rintro rfl;rfl
def kl(a b:ByteArray):Prop:=Op.bytesLess a.toList b.toList=true
instance (a b:ByteArray):Decidable (kl a b):=inferInstanceAs (Decidable (_=true))
theorem Iq{a b:ByteArray}:kl a b↔a.toList<b.toList:=by unfold kl;rw[bytesLess_eq,decide_eq_true_iff]
theorem cn(a:ByteArray):¬kl a a:=by rw[Iq];exact List.lt_irrefl _
theorem gU{a b c:ByteArray}(h:kl a b)(k:kl b c):kl a c:=by rw[Iq]at*;exact List.lt_trans h k
theorem tri:∀x y:List UInt8,Op.bytesLess x y=false→x≠y→Op.bytesLess y x=true
 | [],[],_,h=>absurd rfl h
 | [],_::_,h,_=>by simp[Op.bytesLess]at h
 |_::_,[],_,_=>rfl
 |a::x,b::y,h,hn=>by
  simp only[Op.bytesLess,Bool.or_eq_false_iff,decide_eq_false_iff_not,Bool.and_eq_false_iff]at h;simp only[Op.bytesLess,Bool.or_eq_true,decide_eq_true_iff,Bool.and_eq_true];by_cases e:a=b
  ·subst e
   right;refine⟨by simp,tri x y ?_ fun e=>hn (by rw[e])⟩
   rcases h.2 with h|h
   ·simp at h
   ·exact h
  ·left
   have c:=h.1;rw[UInt8.lt_iff_toNat_lt]at c⊢;have:a.toNat≠b.toNat:=fun h=>e (UInt8.toNat_inj.1 h)
   omega
theorem rB{a b:ByteArray}(h:¬kl a b)(k:a≠b):kl b a:=tri _ _ (by unfold kl at h;simpa using h) fun e=>k (Cr.1 e)
def Gl(a b:ByteArray):Int:=if kl a b then-1 else if a=b then 0 else 1
theorem Kj{x:ByteArray}{h:ac}{K:Bool→ac→Prop}(a:K false h):HC PG oo [.string x] [.c .bool] K h:=by
 refine D5 x ?_;unfold wY;simpa using a
theorem Fv{a b:ByteArray}{h:ac}{K:Int→ac→Prop}(c:K (Gl a b) h):HC PG lP [.string a,.string b] [.c (.int .i64)] K h:=by
 refine Bm a b ?_;unfold uv;refine Kj (Kj (ai.2 (ai.2 ?_)));unfold Gl at c;refine CondP.intro (fun e=>?_) fun e=>?_
 ·rw[if_pos (show kl a b from e)]at c;exact c
 ·have f:¬kl a b:=fun h=>by rw[show Op.bytesLess a.toList b.toList=true from h]at e;cases e
  rw[if_neg f]at c;rw[e];refine CondP.intro (fun d=>?_) fun d=>?_
  ·rw[if_neg (fun h=>by subst h;simp at d)]at c;exact c
  ·have:a.toList=b.toList:=by simpa using d
   rw[if_pos (Cr.1 this)]at c;exact c
theorem Ka{p:Pr}{k:ByteArray}{h:ac}{K:Int→ac→Prop}(a:∀h',Upd No h h'→K (Gl p.1 k) h'):HC PG pu [.agg #[.string p.1,.string p.2],.string k] [.c (.int .i64)] K h:=by
 refine Ja p k ?_;unfold Bu ay m8 vR;have b1:=bE h [.string p.1,.string p.2] ag;refine⟨p.1,by rw[cr,bW,aL b1];rfl,Fv (a _ (Upd.hnew No h _ _))⟩
abbrev bV(l:List Pr):Prop:=l.Pairwise fun p q=>kl p.1 q.1
def pos(l:List Pr)(k:ByteArray):Nat:=(l.takeWhile fun p=>decide (kl p.1 k)).length
def cq(l:List Pr)(k:ByteArray):Bool:=l.any fun p=>decide (p.1=k)
theorem PR{l:List Pr}{k:ByteArray}{i:Nat}(hi:i≤l.length)(b:∀j (h:j<l.length),j<i→kl l[j].1 k)(a:∀(h:i<l.length),¬kl l[i].1 k):pos l k=i:=by
 unfold pos;induction l generalizing i with
 |nil=>simp at hi;simp[hi]
 |cons p l ih=>
  rw[List.takeWhile_cons];cases i with
  |zero=>
   have:=a (by simp);simp only[eI]at this;rw[if_neg (by simpa using this)];rfl
  |succ i=>
   have:=b 0 (by simp) (by omega);simp only[eI]at this;rw[if_pos (by simpa using this),List.length_cons];congr 1
   refine ih (by simpa using hi) (fun j c d=>?_) fun h=>?_
   ·have:=b (j+1) (by simpa using c) (by omega)
    simpa using this
   ·have:=a (by simpa using h)
    simpa using this
theorem PS(l:List Pr)(k:ByteArray):pos l k≤l.length:=by
 unfold pos;exact(List.takeWhile_prefix _).length_le
theorem IB{W:Nat→Prop}{h:ac}{s:SliceV}{l:List Pr}(hs:Sl eJ 2 W h s l)(hr:bV l)(hn:l.length≤1000000000)(k:ByteArray){K:Int×Bool→ac→Prop}
  (E:∀h',Upd No h h'→K ((pos l k:Int),cq l k) h'):HC PG qS [.slice s.a s.len s.cap,.string k] [.c (.int .i64),.c .bool] K h:=by
 refine KM s k ?_;unfold DD;refine iS s k _ ?_;unfold eo cp mC ru aF;have X:=hs.len;have F:∀{p:Pr} {h:ac} {K:Int→ac→Prop},(∀h',Upd No h h'→K (Gl p.1 k) h')→HV PG (.func (.func pu) #[] #[]) [.agg #[.string p.1,.string p.2],.string k] [.c (.int .i64)] K h:=fun E=>HV.mk' (Ka E)
 refine LoopP.ghost (fun(g:Nat×Nat) (t:Int×Int) h'=>t.1=(g.1:Int)∧t.2=(g.2:Int)∧g.1≤g.2∧g.2≤l.length∧Upd No h h'∧(∀j (Q:j<l.length),j<g.1→kl l[j].1 k)∧(∀j (Q:j<l.length),g.2≤j→¬kl l[j].1 k)) (fun g=>g.2-g.1) (0,l.length)
  ⟨rfl,by simp only;omega,by simp,by simp,Upd.refl _ _,fun j Q h=>by omega,fun j Q h=>by simp only at h;omega⟩ ?_
 rintro I ⟨i,j⟩ ⟨ti,tj⟩ h' ⟨Y,V,B,C,N,o,v⟩ U;simp only at Y V B C o v;subst Y V;have J:=hs.upd N fun _ h=>h.elim
 have mono:∀a b (D:a<l.length) (Z:b<l.length),a<b→kl l[a].1 l[b].1:=fun a b D Z P=>List.pairwise_iff_getElem.1 hr a b D Z P
 refine aD (fun u=>?_) fun T=>?_
 ·have u:i<j:=by have:(i:Int)<(j:Int):=u;omega
  have em:IntKind.wrap .i64 (dW (IntKind.wrap .u64 (IntKind.wrap .i64 ((i:Int)+(j:Int)))) (2^(min (1:Int).toNat (IntKind.bits .u64))))=(((i+j)/2:Nat):Int):=by
   have e3:(2^(min (1:Int).toNat (IntKind.bits .u64)):Int)=2:=rfl;rw[e3,d8 (x:=(i:Int)+(j:Int)) (by omega),Go.IntWalk.u64_in _ (by omega),Int.fdiv_eq_ediv_of_nonneg _ (by omega),d8 (by omega)];omega
  refine⟨by decide,?_⟩;simp only[Bd];rw[em];generalize hm:(i+j)/2=m;have A:m<l.length:=by omega
  obtain⟨a,D,_,L⟩:=J.at (aj A);refine⟨by omega,a,D,l[m].1,L 0 _ rfl,l[m].2,L 1 _ rfl,F fun h2 w=>?_⟩
  refine aD (fun d=>?_) fun H=>?_
  ·have c:kl l[m].1 k:=by
    unfold Gl at d;by_cases c:kl l[m].1 k
    ·exact c
    ·rw[if_neg c]at d;split at d<;>omega
   refine U (m+1,j) _ _ ⟨by simp only;rw[d8 (by omega)];omega,rfl,by simp only;omega,C,N.tr w,fun q y z=>?_,v⟩ (by simp only;omega)
   simp only at z;rcases cg q m with h|h
   ·exact gU (mono q m y A h) c
   ·have:q=m:=by omega
    subst this;exact c
  ·have f:¬kl l[m].1 k:=fun c=>H (by unfold Gl;rw[if_pos c];decide)
   refine U (i,m) _ _ ⟨rfl,rfl,by simp only;omega,by simp only;omega,N.tr w,o,fun q y z O=>?_⟩ (by simp only;omega)
   simp only at z;rcases cg m q with h|h
   ·exact f (gU (mono m q A y h) O)
   ·have:q=m:=by omega
    subst this;exact f O
 ·have B:i=j:=by have:¬(i:Int)<(j:Int):=T;omega
  subst B;have G:pos l k=i:=PR C o fun hi=>v i hi (al _)
  rw[G]at E;refine aD (fun u=>?_) fun S=>?_
  ·have n:i<l.length:=by have:(i:Int)<(s.len:Int):=u;omega
   obtain⟨a,D,_,L⟩:=J.at (aj n);refine⟨by simp only;omega,a,D,l[i].1,L 0 _ rfl,l[i].2,L 1 _ rfl,F fun h2 w=>?_⟩
   have f:=v i n (al _);have R:(Gl l[i].1 k==(0:Int))=cq l k:=by
    unfold Gl cq;rw[if_neg f,Bool.eq_iff_iff,List.any_eq_true];constructor
    ·intro h
     split at h
     ·rename_i e;exact⟨l[i],List.getElem_mem n,decide_eq_true e⟩
     ·simp at h
    ·rintro⟨p,G,e⟩
     have e:=of_decide_eq_true e;obtain⟨q,y,rfl⟩:=List.mem_iff_getElem.1 G;have:q=i:=by
      rcases Nat.lt_trichotomy q i with h|h|h
      ·exact absurd (e▸o q y h) (cn _)
      ·exact h
      ·exact absurd (e▸mono i q n y h) f
     subst this;rw[if_pos e];rfl
   rw[R];exact E _ (N.tr w)
  ·have n:i=l.length:=by have:¬(i:Int)<(s.len:Int):=S;omega
   have R:cq l k=false:=by
    unfold cq;rw[List.any_eq_false];intro p G e;have e:=of_decide_eq_true e;obtain⟨q,y,rfl⟩:=List.mem_iff_getElem.1 G;exact absurd (e▸o q y (by omega)) (cn _)
   rw[R]at E;exact E _ N
end Go.Proofs
