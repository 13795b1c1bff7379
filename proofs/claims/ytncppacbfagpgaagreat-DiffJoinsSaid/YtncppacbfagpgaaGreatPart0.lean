/- A part of the proof that the named laws of this program answer true, whatever the input. -/
import Derived.Test.YtncppacbfagpgaaGreatTreeF0
import Derived.Test.YtncppacbfagpgaaGreatTreeF1
import Derived.Test.YtncppacbfagpgaaGreatTreeF2
import Derived.Test.YtncppacbfagpgaaGreatLaw0
import Derived.Test.YtncppacbfagpgaaGreatLift3
import Derived.Lib.Overlaps
import Derived.Sort.Walk0
namespace Go.Proofs
open Go.Lift
open BitVec renaming ofInt→aw
open ByteArray renaming size_extract→pU,toList_eq→dS
open Int renaming fdiv→dG,toNat_natCast→aY
open IntKind renaming wrap→ac,bits→ak
open List renaming flatMap_cons→aX,take_length→bR,drop_length→qp,length_take→aI,length_drop→aO,flatMap_append→bZ,drop_zero→cn,append_assoc→aA,take_append_of_le_length→fC,take_of_length_le→aZ,length_append→ad,drop_left→fP,take_left→gt,size_toArray→dE,drop_eq_getElem_cons→eh,length_eq_zero_iff→av,drop_left'→co,take_left'→cL,drop_drop→dF,drop_append_of_le_length→fF,getElem_cons_zero→fi,getElem?_eq_getElem→ai,mem_cons_self→ax,mem_cons_of_mem→aF,mem_cons→aB,pairwise_cons→az,append_eq_nil_iff→iS,mem_singleton→aC
open Nat renaming zero_add→aQ,sub_self→dk,le_refl→au,lt_or_ge→cg,min_eq_left→bG,sub_zero→dQ,min→dR,add_one_mul→gJ,one_mul→qU,le_mul_of_pos_left→pP,min_eq_right→ga,zero_mul→vP
open Option renaming isSome_iff_exists→hJ
theorem LW(n:Int):0≤ac .u64 n∧ac .u64 n<18446744073709551616:=by rw[IntKind.wrap_u64];omega
theorem cR{x:Int}(h: -4611686018427387904≤x∧x≤4611686018427387904):ac .i64 x=x:=Go.IntWalk.i64_in _ (by omega)
theorem oP{i n:Nat}(h:i<n)(hn:n≤4611686018427387904):ac .i64 ((i:Int)+1)=((i+1:Nat):Int):=by rw[cR (by omega)];omega
theorem xa{h:af}{b i:Nat}{c:Array Value}{t:TypeId}{v:Value}{k:af→Prop}(hb:h[b]?=some(.cells c t(0,0)))
  (hk:∀h',h'[b]?=some(.cells(c.setIfInBounds i v) t(0,0))→Upd(·=b) h h'→k h'):At(hset h ⟨b,i,none⟩ v) k:=by
 refine hk _ ?_(Upd.hset _ _ rfl);rw[uC hb,jo hb]
def Rq(a b:Int):Int:=ac .u64 (aw (ak .u64) a&&&aw (ak .u64) b).toNat
def gC(a b:Int):Int:=ac .u64 (aw (ak .u64) a^^^aw (ak .u64) b).toNat
def QE(a b:Int):Int:=ac .u64 (aw (ak .u64) a|||aw (ak .u64) b).toNat
def Mf(x n:Int):Int:=
 QE (ac .u64 (x*2^(min (Rq (ac .u64 n) 63).toNat (ak .u64)))) (dG x (2^(min (ac .u64 (64-Rq (ac .u64 n) 63)).toNat (ak .u64))))
theorem BJ{x n:Int}{h:af}{K:Int→af→Prop}(hk:K(Mf x n) h):HC PG cX [.int .u64 x,.int .i64 n] [.c (.int .u64)] K h:=by
 refine um x n ?_;unfold nX;exact⟨(LW _).1,(LW _).1,hk⟩
abbrev Q4:=Int×Int×Int×Int
def q4(s:Q4):Array Value:= #[.int .u64 s.1,.int .u64 s.2.1,.int .u64 s.2.2.1,.int .u64 s.2.2.2]
def SH(a b:Int):Int:=ac .u64 (a+b)
def RB(s:Q4):Q4:=(SH s.1 s.2.1,s.2)
def RW(s:Q4):Q4:=(s.1,gC (Mf s.2.1 13) s.1,s.2.2)
def SR(s:Q4):Q4:=(Mf s.1 32,s.2)
def S9(s:Q4):Q4:=(s.1,s.2.1,SH s.2.2.1 s.2.2.2,s.2.2.2)
def TA(s:Q4):Q4:=(s.1,s.2.1,s.2.2.1,gC (Mf s.2.2.2 16) s.2.2.1)
def TJ(s:Q4):Q4:=(SH s.1 s.2.2.2,s.2)
def TI(s:Q4):Q4:=(s.1,s.2.1,s.2.2.1,gC (Mf s.2.2.2 21) s.1)
def Ue(s:Q4):Q4:=(s.1,s.2.1,SH s.2.2.1 s.2.1,s.2.2.2)
def s09(s:Q4):Q4:=(s.1,gC (Mf s.2.1 17) s.2.2.1,s.2.2)
def TH(s:Q4):Q4:=(s.1,s.2.1,Mf s.2.2.1 32,s.2.2.2)
def Me(s:Q4):Q4:=TH (s09 (Ue (TI (TJ (TA (S9 (SR (RW (RB s)))))))))
def pe:Nat→Q4→Q4
 |0,s=>s
 |n+1,s=>pe n (Me s)
theorem p8{h:af}{b i:Nat}{t:TypeId}{s s':Q4}{v:Value}{k:af→Prop}(hb:h[b]?=some(.cells(q4 s) t(0,0)))(e:(q4 s).setIfInBounds i v=q4 s')
  (hk:∀h',h'[b]?=some(.cells(q4 s') t(0,0))→Upd(·=b) h h'→k h'):At(hset h ⟨b,i,none⟩ v) k:=
 xa hb fun h' hb' hu=>hk h'(e▸hb') hu
theorem Hd{n:Nat}(hn:n≤100){h:af}{b:Nat}{t:TypeId}{s:Q4}(hb:h[b]?=some(.cells(q4 s) t(0,0))){K:Unit→af→Prop}
  (hk:∀h',h'[b]?=some(.cells(q4(pe n s)) t(0,0))→Upd(·=b) h h'→K() h'):HC PG ji[.pointer(some ⟨b,0,none⟩),.int .i64 n][] K h:=by
 refine y9 _ _ ?_;unfold sG aj bP;refine LoopP.ghost(fun(g:Nat×Q4)(t':Int) h'=>t'=(g.1:Int)∧g.1≤n∧h'[b]?=some(.cells(q4 g.2) t(0,0))∧Upd(·=b) h h'∧pe(n-g.1) g.2=pe n s)(fun g=>n-g.1)(0,s) ⟨rfl,Nat.zero_le _,hb,Upd.refl _ _,rfl⟩ ?_
 rintro I ⟨i,s1⟩ t' h' ⟨ht,hi,hb1,hu,hr⟩ hI;simp only at ht hi hb1 hr;subst ht;refine ay(fun hlt=>?_)fun hge=>?_
 ·have hlt:i<n:=by omega
  have c:∀{h:af}{s:Q4}{i:Nat},h[b]?=some(.cells(q4 s) t(0,0))→aN h ⟨b,0+i,none⟩=(q4 s)[i]?:=fun hb=>by rw[aQ];exact bj hb
  have w:∀{h:af}{s:Q4}{i:Nat},h[b]?=some(.cells(q4 s) t(0,0))→i<4→Wr h ⟨b,0+i,none⟩:=fun hb hi=>by rw[aQ];exact ir hb hi
  simp only[show((0:Int)).toNat*1=0 from rfl,show((1:Int)).toNat*1=1 from rfl,show((2:Int)).toNat*1=2 from rfl,show((3:Int)).toNat*1=3 from rfl]
  refine⟨_,rfl,by decide,_,c(i:=0) hb1,_,rfl,by decide,_,c(i:=1) hb1,_,rfl,by decide,w(i:=0) hb1(by decide),p8(s':=RB s1) hb1 rfl fun h2 hb2 hu2=>?_⟩
  refine⟨_,rfl,by decide,_,c(i:=1) hb2,_,rfl,by decide,_,c(i:=0) hb2,_,rfl,BJ ⟨c(i:=0) hb2,by decide,w(i:=1) hb2(by decide),p8(s':=RW(RB s1)) hb2 rfl fun h3 hb3 hu3=>?_⟩⟩
  refine⟨_,rfl,by decide,_,c(i:=0) hb3,_,rfl,BJ ⟨by decide,w(i:=0) hb3(by decide),p8(s':=SR(RW(RB s1))) hb3 rfl fun h4 hb4 hu4=>?_⟩⟩
  refine⟨_,rfl,by decide,_,c(i:=2) hb4,_,rfl,by decide,_,c(i:=3) hb4,_,rfl,by decide,w(i:=2) hb4(by decide),p8(s':=S9(SR(RW(RB s1)))) hb4 rfl fun h5 hb5 hu5=>?_⟩
  refine⟨_,rfl,by decide,_,c(i:=3) hb5,_,rfl,by decide,_,c(i:=2) hb5,_,rfl,BJ ⟨c(i:=2) hb5,by decide,w(i:=3) hb5(by decide),p8(s':=TA(S9(SR(RW(RB s1))))) hb5 rfl fun h6 hb6 hu6=>?_⟩⟩
  refine⟨_,rfl,by decide,_,c(i:=0) hb6,_,rfl,by decide,_,c(i:=3) hb6,_,rfl,by decide,w(i:=0) hb6(by decide),p8(s':=TJ(TA(S9(SR(RW(RB s1)))))) hb6 rfl fun h7 hb7 hu7=>?_⟩
  refine⟨_,rfl,by decide,_,c(i:=3) hb7,_,rfl,by decide,_,c(i:=0) hb7,_,rfl,BJ ⟨c(i:=0) hb7,by decide,w(i:=3) hb7(by decide),p8(s':=TI(TJ(TA(S9(SR(RW(RB s1))))))) hb7 rfl fun h8 hb8 hu8=>?_⟩⟩
  refine⟨_,rfl,by decide,_,c(i:=2) hb8,_,rfl,by decide,_,c(i:=1) hb8,_,rfl,by decide,w(i:=2) hb8(by decide),p8(s':=Ue(TI(TJ(TA(S9(SR(RW(RB s1)))))))) hb8 rfl fun h9 hb9 hu9=>?_⟩
  refine⟨_,rfl,by decide,_,c(i:=1) hb9,_,rfl,by decide,_,c(i:=2) hb9,_,rfl,BJ ⟨c(i:=2) hb9,by decide,w(i:=1) hb9(by decide),p8(s':=s09(Ue(TI(TJ(TA(S9(SR(RW(RB s1))))))))) hb9 rfl fun h10 hb10 hu10=>?_⟩⟩
  refine⟨_,rfl,by decide,_,c(i:=2) hb10,_,rfl,BJ ⟨by decide,w(i:=2) hb10(by decide),p8(s':=Me s1) hb10 rfl fun h11 hb11 hu11=>?_⟩⟩
  rw[oP hlt(by omega)];refine hI(i+1,Me s1) _ _ ⟨rfl,hlt,hb11,hu.tr(hu2.tr(hu3.tr(hu4.tr(hu5.tr(hu6.tr(hu7.tr(hu8.tr(hu9.tr(hu10.tr hu11))))))))),?_⟩ (by simp only;omega);simp only;rw[←hr,show n-i=(n-(i+1))+1 by omega];rfl
 ·obtain rfl:i=n:=by omega
  rw[dk]at hr;have hr:s1=pe i s:=hr;rw[←hr]at hk;exact hk _ hb1 hu
end Go.Proofs
namespace Go.Proofs
open Go.Lift
def SD(s:ByteArray)(i:Nat):Int:=match s[i]? with|some b=>(b.toNat:Int)|none=>0
def T3(b:Int)(n:Int):Int:=ac .u64 ((ac .u64 b)*2^(min n.toNat (ak .u64)))
def wj(s:ByteArray):Nat→Int→Int
 |0,t=>t
 |k+1,t=>wj s k (QE t (if k=0 then ac .u64 (SD s 0)else T3 (SD s k) ((8*k:Nat):Int)))
def CG(s:ByteArray):Int:=wj s s.size 0
theorem tB{s:ByteArray}{i:Nat}(h:i<s.size):∃b,s[i]?=some b∧SD s i=(b.toNat:Int):=⟨s[i],getElem?_pos s i h,by simp[SD,getElem?_pos s i h]⟩
theorem NT{s:ByteArray}(hs:s.size≤8){h:af}{K:Int→af→Prop}(hk:K(CG s) h):HC PG vy [.string s] [.c (.int .u64)] K h:=by
 refine Nl s ?_;unfold FJ;refine Join.intro (fun t h'=>h'=h∧1≤s.size∧wj s 1 t=wj s s.size 0) (fun R1 hR1=>?_) ?_
 ·refine Join.intro (fun t h'=>h'=h∧2≤s.size∧wj s 2 t=wj s s.size 0) (fun R2 hR2=>?_) ?_
  ·refine Join.intro (fun t h'=>h'=h∧3≤s.size∧wj s 3 t=wj s s.size 0) (fun R3 hR3=>?_) ?_
   ·refine Join.intro (fun t h'=>h'=h∧4≤s.size∧wj s 4 t=wj s s.size 0) (fun R4 hR4=>?_) ?_
    ·refine Join.intro (fun t h'=>h'=h∧5≤s.size∧wj s 5 t=wj s s.size 0) (fun R5 hR5=>?_) ?_
     ·refine Join.intro (fun t h'=>h'=h∧6≤s.size∧wj s 6 t=wj s s.size 0) (fun R6 hR6=>?_) ?_
      ·refine Join.intro (fun t h'=>h'=h∧7≤s.size∧wj s 7 t=wj s s.size 0) (fun R7 hR7=>?_) ?_
       ·refine CondP.intro (fun e=>?_)fun e8=>?_
        ·have e:s.size=8:=by have:=of_decide_eq_true (by simpa using e:decide ((s.size:Int)=8)=true);omega
         obtain⟨b,hb,hv⟩:=tB (s:=s) (i:=7) (by omega);refine⟨b,by decide,hb,by decide,hR7 _ _ ⟨rfl,by omega,?_⟩⟩
         rw[e,←hv];rfl
        refine CondP.intro (fun e=>?_)fun e7=>?_
        ·have e:s.size=7:=by have:=of_decide_eq_true (by simpa using e:decide ((s.size:Int)=7)=true);omega
         exact hR7 _ _ ⟨rfl,by omega,by rw[e]⟩
        refine CondP.intro (fun e=>?_)fun e6=>?_
        ·have e:s.size=6:=by have:=of_decide_eq_true (by simpa using e:decide ((s.size:Int)=6)=true);omega
         exact hR6 _ _ ⟨rfl,by omega,by rw[e]⟩
        refine CondP.intro (fun e=>?_)fun e5=>?_
        ·have e:s.size=5:=by have:=of_decide_eq_true (by simpa using e:decide ((s.size:Int)=5)=true);omega
         exact hR5 _ _ ⟨rfl,by omega,by rw[e]⟩
        refine CondP.intro (fun e=>?_)fun e4=>?_
        ·have e:s.size=4:=by have:=of_decide_eq_true (by simpa using e:decide ((s.size:Int)=4)=true);omega
         exact hR4 _ _ ⟨rfl,by omega,by rw[e]⟩
        refine CondP.intro (fun e=>?_)fun e3=>?_
        ·have e:s.size=3:=by have:=of_decide_eq_true (by simpa using e:decide ((s.size:Int)=3)=true);omega
         exact hR3 _ _ ⟨rfl,by omega,by rw[e]⟩
        refine CondP.intro (fun e=>?_)fun e2=>?_
        ·have e:s.size=2:=by have:=of_decide_eq_true (by simpa using e:decide ((s.size:Int)=2)=true);omega
         exact hR2 _ _ ⟨rfl,by omega,by rw[e]⟩
        refine CondP.intro (fun e=>?_)fun e1=>?_
        ·have e:s.size=1:=by have:=of_decide_eq_true (by simpa using e:decide ((s.size:Int)=1)=true);omega
         exact hR1 _ _ ⟨rfl,by omega,by rw[e]⟩
        have e:s.size=0:=by
         have q1:¬(s.size:Int)=1:=by simpa using e1
         have q2:¬(s.size:Int)=2:=by simpa using e2
         have q3:¬(s.size:Int)=3:=by simpa using e3
         have q4:¬(s.size:Int)=4:=by simpa using e4
         have q5:¬(s.size:Int)=5:=by simpa using e5
         have q6:¬(s.size:Int)=6:=by simpa using e6
         have q7:¬(s.size:Int)=7:=by simpa using e7
         have q8:¬(s.size:Int)=8:=by simpa using e8
         omega
        unfold CG at hk;rw[e]at hk;exact hk
       ·rintro t _ ⟨rfl,hsz,ht⟩
        obtain⟨b,hb,hv⟩:=tB (s:=s) (i:=6) (by omega);refine⟨b,by decide,hb,by decide,hR6 _ _ ⟨rfl,by omega,?_⟩⟩
        rw[←ht,←hv];rfl
      ·rintro t _ ⟨rfl,hsz,ht⟩
       obtain⟨b,hb,hv⟩:=tB (s:=s) (i:=5) (by omega);refine⟨b,by decide,hb,by decide,hR5 _ _ ⟨rfl,by omega,?_⟩⟩
       rw[←ht,←hv];rfl
     ·rintro t _ ⟨rfl,hsz,ht⟩
      obtain⟨b,hb,hv⟩:=tB (s:=s) (i:=4) (by omega);refine⟨b,by decide,hb,by decide,hR4 _ _ ⟨rfl,by omega,?_⟩⟩
      rw[←ht,←hv];rfl
    ·rintro t _ ⟨rfl,hsz,ht⟩
     obtain⟨b,hb,hv⟩:=tB (s:=s) (i:=3) (by omega);refine⟨b,by decide,hb,by decide,hR3 _ _ ⟨rfl,by omega,?_⟩⟩
     rw[←ht,←hv];rfl
   ·rintro t _ ⟨rfl,hsz,ht⟩
    obtain⟨b,hb,hv⟩:=tB (s:=s) (i:=2) (by omega);refine⟨b,by decide,hb,by decide,hR2 _ _ ⟨rfl,by omega,?_⟩⟩
    rw[←ht,←hv];rfl
  ·rintro t _ ⟨rfl,hsz,ht⟩
   obtain⟨b,hb,hv⟩:=tB (s:=s) (i:=1) (by omega);refine⟨b,by decide,hb,by decide,hR1 _ _ ⟨rfl,by omega,?_⟩⟩
   rw[←ht,←hv];rfl
 ·rintro t _ ⟨rfl,hsz,ht⟩
  obtain⟨b,hb,hv⟩:=tB (s:=s) (i:=0) (by omega);refine⟨b,by decide,hb,?_⟩
  unfold CG at hk;rw[←ht]at hk;rw[←hv];exact hk
end Go.Proofs
namespace Go.Proofs
open Go.Lift
def Es(m:Int)(s:Q4):Q4:=
 let r:=pe 2 (s.1,s.2.1,s.2.2.1,gC s.2.2.2 m)
 (gC r.1 m,r.2)
theorem NX{m:Int}{h:af}{b:Nat}{t:TypeId}{s:Q4}(hb:h[b]?=some(.cells(q4 s) t(0,0))){K:Unit→af→Prop}
  (hk:∀h',h'[b]?=some(.cells(q4(Es m s)) t(0,0))→Upd(·=b) h h'→K() h'):HC PG mO[.pointer(some ⟨b,0,none⟩),.int .u64 m][] K h:=by
 refine Cg _ _ ?_;unfold uT aj bP;have c:∀{h:af}{s:Q4}{i:Nat},h[b]?=some(.cells(q4 s) t(0,0))→aN h ⟨b,0+i,none⟩=(q4 s)[i]?:=fun hb=>by rw[aQ];exact bj hb
 have w:∀{h:af}{s:Q4}{i:Nat},h[b]?=some(.cells(q4 s) t(0,0))→i<4→Wr h ⟨b,0+i,none⟩:=fun hb hi=>by rw[aQ];exact ir hb hi
 simp only[show((0:Int)).toNat*1=0 from rfl,show((3:Int)).toNat*1=3 from rfl]
 refine⟨_,rfl,by decide,_,c(i:=3) hb,_,rfl,by decide,w(i:=3) hb(by decide),p8(s':=(s.1,s.2.1,s.2.2.1,gC s.2.2.2 m)) hb rfl fun h2 hb2 hu2=>?_⟩
 refine Hd(n:=2)(by omega) hb2 fun h3 hb3 hu3=>?_
 have et:Es m s=(gC(pe 2(s.1,s.2.1,s.2.2.1,gC s.2.2.2 m)).1 m,(pe 2(s.1,s.2.1,s.2.2.1,gC s.2.2.2 m)).2):=by unfold Es;rfl
 rw[et]at hk;generalize pe 2(s.1,s.2.1,s.2.2.1,gC s.2.2.2 m)=r at hb3 hk;refine⟨_,rfl,by decide,_,c(i:=0) hb3,_,rfl,by decide,w(i:=0) hb3(by decide),p8(s':=(gC r.1 m,r.2)) hb3 rfl fun h4 hb4 hu4=>?_⟩
 exact hk _ hb4(hu2.tr(hu3.tr hu4))
def Ev:Nat→ByteArray→Q4→ByteArray×Q4
 |0,s,q=>(s,q)
 |n+1,s,q=>if 8≤s.size then Ev n (s.extract 8 s.size) (Es (CG (s.extract 0 8)) q)else(s,q)
def TS(r:Q4):Int:=gC (gC (gC r.1 r.2.1) r.2.2.1) r.2.2.2
def TR(q:Q4):Int:=TS (pe 4 (q.1,q.2.1,gC q.2.2.1 255,q.2.2.2))
def Ub(n:Nat)(g:ByteArray×Q4):Int:=TR (Es (QE (CG g.1) (T3 (n:Int) 56)) g.2)
def RP(k0 k1:Int)(s:ByteArray):Int:=
 Ub s.size (Ev s.size s (gC k0 8317987319222330741,gC k1 7237128888997146477,gC k0 7816392313619706465,gC k1 8387220255154660723))
theorem Ss{h29:af}{b:Nat}{t:TypeId}{r:Q4}(hb:h29[b]?=some(.cells(q4 r) t(0,0))){K:Int→Prop}(hk:K(TS r)):
  (((0:Int)≤(0:Int)∧(0:Int)<((4:Nat):Int))∧
   ∃v30:Int,aN h29(adr ⟨b,0,none⟩ ((0:Int).toNat*1))=some(.int .u64 v30)∧
   (((0:Int)≤(1:Int)∧(1:Int)<((4:Nat):Int))∧
    ∃v31:Int,aN h29(adr ⟨b,0,none⟩ ((1:Int).toNat*1))=some(.int .u64 v31)∧
    Bd(ac .u64(aw(ak .u64) v30^^^aw(ak .u64) v31).toNat:Int)(fun n32=>
     (((0:Int)≤(2:Int)∧(2:Int)<((4:Nat):Int))∧
      ∃v33:Int,aN h29(adr ⟨b,0,none⟩ ((2:Int).toNat*1))=some(.int .u64 v33)∧
      Bd(ac .u64(aw(ak .u64) n32^^^aw(ak .u64) v33).toNat:Int)(fun n34=>
       (((0:Int)≤(3:Int)∧(3:Int)<((4:Nat):Int))∧
        ∃v35:Int,aN h29(adr ⟨b,0,none⟩ ((3:Int).toNat*1))=some(.int .u64 v35)∧
        Bd(ac .u64(aw(ak .u64) n34^^^aw(ak .u64) v35).toNat:Int)(fun n36=>
         K n36))))))):=by
 have c:∀{i:Nat},aN h29 ⟨b,0+i,none⟩=(q4 r)[i]?:=by intro i;rw[aQ];exact bj hb
 exact⟨by decide,_,c(i:=0),by decide,_,c(i:=1),by decide,_,c(i:=2),by decide,_,c(i:=3),hk⟩
theorem Sr{h24:af}{b:Nat}{t:TypeId}{q:Q4}(hb:h24[b]?=some(.cells(q4 q) t(0,0))){K:Unit→af→Prop}
  (hk:∀h',h'[b]?=some(.cells(q4(pe 4(q.1,q.2.1,gC q.2.2.1 255,q.2.2.2))) t(0,0))→Upd(·=b) h24 h'→K() h'):
  (((0:Int)≤(2:Int)∧(2:Int)<((4:Nat):Int))∧
   ∃v25:Int,aN h24(adr ⟨b,0,none⟩ ((2:Int).toNat*1))=some(.int .u64 v25)∧
   Bd(ac .u64(aw(ak .u64) v25^^^aw(ak .u64) 255).toNat:Int)(fun n26=>
    (((0:Int)≤(2:Int)∧(2:Int)<((4:Nat):Int))∧
     (Wr h24(adr ⟨b,0,none⟩ ((2:Int).toNat*1))∧
      At(hset h24(adr ⟨b,0,none⟩ ((2:Int).toNat*1))(.int .u64 n26))(fun h27=>
       HC PG ji[.pointer(some ⟨b,0,none⟩),.int .i64 4][] K h27))))):=by
 have c:∀{i:Nat},aN h24 ⟨b,0+i,none⟩=(q4 q)[i]?:=by intro i;rw[aQ];exact bj hb
 refine⟨by decide,_,c(i:=2),by decide,by rw[show((2:Int)).toNat*1=2 from rfl,cd];exact ir hb(by simp[q4]),?_⟩
 refine p8(s':=(q.1,q.2.1,gC q.2.2.1 255,q.2.2.2)) hb rfl fun h3 hb3 hu3=>?_
 exact Hd(n:=4)(by omega) hb3 fun h4 hb4 hu4=>hk h4 hb4(hu3.tr hu4)
theorem bC{h:af}{k:af→Prop}(hk:k h):At h k:=hk
theorem S5{k0 k1:Int}{s:ByteArray}{h:af}{K:Int→af→Prop}(hk:∀h',Upd No h h'→K(RP k0 k1 s) h'):HC PG BX [.agg #[.int .u64 k0,.int .u64 k1],.string s] [.c (.int .u64)] K h:=by
 refine PF (k0,k1) s ?_;unfold H2 aj bP;have k1':=Upd.hnew No h [.int .u64 k0,.int .u64 k1] lA;have b1:=bW h [.int .u64 k0,.int .u64 k1] lA;have z1:=ja h [.int .u64 k0,.int .u64 k1] lA;refine bC ?_;simp only[cH h];generalize hnew h [.int .u64 k0,.int .u64 k1] lA=h1 at k1' b1 z1;refine⟨k0,by rw[cd,bj b1];rfl,k1,by rw[cd,bj b1];rfl,k0,by rw[cd,bj b1];rfl,k1,by rw[cd,bj b1];rfl,?_⟩
 have k2:=Upd.hnew No h1 [.int .u64 0,.int .u64 0,.int .u64 0,.int .u64 0] jx;have b2:=bW h1 [.int .u64 0,.int .u64 0,.int .u64 0,.int .u64 0] jx;simp only[cH h1];simp only[Bd];refine bC ?_;refine⟨.inr ⟨_,rfl,fun j hj=>by rw[cd];exact ir b2 (by simp at hj⊢;omega)⟩,?_⟩
 refine bC ?_;rw[ju _ _ 0 0 _ b2 (by simp)];have b3:=jo (o:=.cells (q4 (gC k0 8317987319222330741,gC k1 7237128888997146477,gC k0 7816392313619706465,gC k1 8387220255154660723)) jx (0,0)) b2;have k3:Upd No h _:=k1'.tr (k2.trans (M':=(·=h1.size)) (Upd.set (hnew h1 [.int .u64 0,.int .u64 0,.int .u64 0,.int .u64 0] jx) (.cells (q4 (gC k0 8317987319222330741,gC k1 7237128888997146477,gC k0 7816392313619706465,gC k1 8387220255154660723)) jx (0,0)) rfl)fun b hb=>.inr (Nat.le_of_eq hb.symm))
 refine LoopP.ghost (fun(g:Nat×Q4) (t':ByteArray) h'=>t'.size≤g.1∧h'[h1.size]?=some (.cells (q4 g.2) jx (0,0))∧Upd No h h'∧Ev g.1 t' g.2=Ev s.size s (gC k0 8317987319222330741,gC k1 7237128888997146477,gC k0 7816392313619706465,gC k1 8387220255154660723)) (fun g=>g.1) (s.size,_)
  ⟨au _,b3,k3,rfl⟩ ?_
 rintro I ⟨n,q⟩ t' h' ⟨hn,hb,hu,hg⟩ hI;simp only at hn hb hg;have hsh:∀b,b=h1.size→No b∨h.size≤b:=fun b hb=>.inr (by omega)
 refine ay (fun hge=>?_)fun hlt=>?_
 ·have hge:8≤t'.size:=by omega
  cases n with
  |zero=>omega
  |succ n=>
   refine⟨by omega,NT (by rw[pU];show min 8 _-0≤8;omega) (NX hb fun h2 hb2 hu2=>⟨by omega,?_⟩)⟩
   have e8:((8:Int)).toNat=8:=rfl;rw[e8]at hb2⊢;refine hI (n,Es (CG (t'.extract 0 8)) q) _ _ ⟨by simp only[pU];omega,hb2,hu.trans hu2 hsh,?_⟩ (by simp only;omega);rw[←hg];simp only[Ev,if_pos hge]
 ·have hlt:t'.size<8:=by omega
  have hg:(t',q)=Ev s.size s (gC k0 8317987319222330741,gC k1 7237128888997146477,gC k0 7816392313619706465,gC k1 8387220255154660723):=by
   rw[←hg];cases n with
   |zero=>rfl
   |succ n=>simp only[Ev,if_neg (show ¬8≤t'.size by omega)]
  have c:∀{h:af} {s:Q4} {i:Nat},h[h1.size]?=some (.cells (q4 s) jx (0,0))→aN h ⟨h1.size,0+i,none⟩=(q4 s)[i]?:=fun hb=>by rw[aQ];exact bj hb
  have w:∀{h:af} {s:Q4} {i:Nat},h[h1.size]?=some (.cells (q4 s) jx (0,0))→i<4→Wr h ⟨h1.size,0+i,none⟩:=fun hb hi=>by rw[aQ];exact ir hb hi
  have hsv:RP k0 k1 s=TR (Es (QE (CG t') (T3 (s.size:Int) 56)) q):=by unfold RP;rw[←hg];rfl
  rw[hsv]at hk;refine NT (by omega) ⟨by decide,NX (m:=QE (CG t') (T3 (s.size:Int) 56)) hb fun h2 hb2 hu2=>?_⟩
  refine Sr hb2 fun h4 hb4 hu4=>Ss (K:=fun n=>K n h4) hb4 ?_
  exact hk h4 ((hu.trans hu2 hsh).trans hu4 hsh)
structure Hs where
 k0:Int
 k1:Int
 mask:Int
def ef(h:Hs)(s:ByteArray):Int:=Rq (RP h.k0 h.k1 s) h.mask
theorem Ah{x:Hs}{s:ByteArray}{h:af}{K:Int→af→Prop}(hk:∀h',Upd No h h'→K(ef x s) h'):HC PG gg [.agg #[.int .u64 x.k0,.int .u64 x.k1,.int .u64 x.mask],.string s] [.c (.int .u64)] K h:=by
 refine AE (x.k0,x.k1,x.mask) s ?_;unfold tI aj;have k1':=Upd.hnew No h [.int .u64 x.k0,.int .u64 x.k1,.int .u64 x.mask] ct;have b1:=bW h [.int .u64 x.k0,.int .u64 x.k1,.int .u64 x.mask] ct;simp only[At,cH h];generalize hnew h [.int .u64 x.k0,.int .u64 x.k1,.int .u64 x.mask] ct=h1 at k1' b1;refine⟨x.k0,by rw[cd,cd,bj b1];rfl,x.k1,by rw[cd,cd,bj b1];rfl,x.mask,by rw[cd,bj b1];rfl,?_⟩
 refine S5 fun h2 hu=>⟨by rw[cd,bj (hu.get0 b1)];rfl,hk _ (k1'.tr hu)⟩
theorem KV(x:Hs)(s:ByteArray):0≤ef x s∧ef x s<18446744073709551616:=LW _
end Go.Proofs
namespace Go.Proofs
open Go Go.Lift
abbrev ee(x:ByteArray×ByteArray):List Value:= [.string x.1,.string x.2]
theorem fS(x:ByteArray×ByteArray):(ee x).length=2∧0<2:=⟨rfl,by omega⟩
theorem vn:∀xs:List (ByteArray×ByteArray),cf (xs.flatMap ee)=true
 | []=>rfl
 |x::xs=>by rw[aX];exact mN rfl (vn xs)
theorem ID{h:af}{vb b o la ca lb cb:Nat}{cv cw:Array Value}{tv tb:TypeId}(hv:h[vb]?=some(.cells cv tv(0,0)))(hb:h[b]?=some(.cells cw tb(0,0)))(hn:vb≠b)(h0:cw.size≠0){K:Bool→af→Prop}(hk:K false h):
  HC PG iM[.slice(some ⟨vb,0,none⟩) la ca,.slice(some ⟨b,o,none⟩) lb cb][.c .bool] K h:=by
 refine⟨fun w hw=>.inr ⟨.bool false,w,?_,Tame.refl w,false,rfl,hw▸hk⟩⟩
 subst hw;rw[rL];have:=Lib.run_overlaps_apart(P:=PG) w cj p4 aq(by kernel_rfl)(bX PG aq)(qH(by kernel_rfl)) ⟨vb,0,none⟩ ⟨b,o,none⟩ la ca lb cb hn tv tb cv.size cw.size
  (by simp[World.shape?,hv])(by simp[World.shape?,hb]) h0(by simp[World.frozen?,hv])(by simp[World.frozen?,hv])
 rw[show([Value.slice(some ⟨vb,0,none⟩) la ca,Value.slice(some ⟨b,o,none⟩) lb cb]:List Value).toArray= #[.slice(some ⟨vb,0,none⟩) la ca,.slice(some ⟨b,o,none⟩) lb cb]from rfl,this]
 rfl
set_option maxRecDepth 4000 in
theorem MN{M:Nat→Prop}{h:af}{s:SliceV}{xs:List(ByteArray×ByteArray)}(hs:OwnS ee 2 aq M h s xs){k:Nat}(hkl:k≤xs.length)(hn:(xs.length+1)*32≤140737488355328){x:ByteArray×ByteArray}{vb:Nat}(hv:h[vb]?=some(.cells(ee x).toArray aq(0,0)))
  (hvM:¬M vb)(hM:∀b,h.size≤b→M b){K:SliceV→af→Prop}(hK:∀s' h',OwnS ee 2 aq M h' s'(xs.take k++x::xs.drop k)→Upd M h h'→K s' h'):
  HC PG cP[.slice s.a s.len s.cap,.int .i64 k,.slice(some ⟨vb,0,none⟩) 1 1][.c .slice] K h:=by
 refine mX s k ⟨some ⟨vb,0,none⟩,1,1⟩ ?_;unfold il;have hlen:=hs.len;have hcap:=hs.cap;have hxr:SRow h(some ⟨vb,0,none⟩)(1*2)(ee x):=⟨rfl,.inr ⟨_,rfl,pd hv fun i v hi=>by simpa using hi⟩⟩
 refine⟨by omega,al.2 ?_⟩;refine CondP.intro(fun e=>?_)fun e=>?_
 ·have e:k=xs.length:=by have:=of_decide_eq_true(by simpa using e:decide((k:Int)=(s.len:Int))=true);omega
  subst e;refine⟨_,hxr,AppP.own(ys:= [x]) hs rfl(by simp) rfl rfl(by omega)(by simp;omega)(hM _(au _))fun s' h' ho hu=>hK s' h' ?_ hu⟩
  rw[bR,qp];exact ho
 have hlt:k<xs.length:=by
  rcases cg k xs.length with h|h
  ·exact h
  ·have:((k:Int)==(s.len:Int))=true:=by rw[beq_iff_eq];omega
   rw[this]at e;cases e
 rcases hs.blk with h0|⟨b,rest,ha,hb,hc,hr⟩
 ·omega
 have hA:((xs.take k).flatMap ee).length=k*2:=by rw[kM fS,aI,bG hkl]
 have hB:((xs.drop k).flatMap ee).length=(xs.length-k)*2:=by rw[kM fS,aO]
 have hbv:vb≠b:=fun e=>hvM(e▸hb)
 rw[yZ(f:=ee) xs k]at hc;have hins:(xs.take k++x::xs.drop k).flatMap ee=(xs.take k).flatMap ee++(ee x++(xs.drop k).flatMap ee):=by rw[bZ,aX]
 have hone:=vn(xs.drop k);have hxl:(ee x).length=2:=rfl;have hx1:cf(ee x)=true:=rfl;generalize hAe:(xs.take k).flatMap ee=A at hA hc hins;generalize hBe:(xs.drop k).flatMap ee=B at hB hc hins hone;generalize ee x=X at hxr hxl hv hins hx1;rw[ha];have w1:ac .i64((xs.length:Int)+((1:Nat):Int))=((xs.length+1:Nat):Int):=by rw[cR(by omega)];omega
 have w2:ac .i64((k:Int)+((1:Nat):Int))=((k+1:Nat):Int):=by rw[cR(by omega)];omega
 have w3:ac .i64(((xs.length+1:Nat):Int)-(k:Int))=((xs.length+1-k:Nat):Int):=by rw[cR(by omega)];omega
 simp only[w1,w2,w3,aY,hlen];refine ay(fun hgt=>?_)fun hle=>?_
 ·
  have hcl:s.cap=xs.length:=by omega
  refine Join.plain ⟨by omega,⟨by omega,by omega,by omega,by omega⟩,fun hin=>?_,fun hout=>?_⟩
  ·omega
  ·refine⟨A,_,?_,rfl,by omega,Go.growslice_fits hout(by omega),fun nc hnc=>?_⟩
   ·rw[sub_zero]
    exact lC hc(by rw[hA];omega)(by simp only[cn,dQ];rw[aA,←hA,fC(au _),bR])
   ·simp only[aY]at hnc⊢
    have kn:=Upd.hnew No h(A++dz(xs.length+1-k)[.string(⟨#[]⟩:ByteArray),.string(⟨#[]⟩:ByteArray)]++dz(nc-(k-0+(xs.length+1-k)))[.string(⟨#[]⟩:ByteArray),.string(⟨#[]⟩:ByteArray)]) aq;have bn:=bW h(A++dz(xs.length+1-k)[.string(⟨#[]⟩:ByteArray),.string(⟨#[]⟩:ByteArray)]++dz(nc-(k-0+(xs.length+1-k)))[.string(⟨#[]⟩:ByteArray),.string(⟨#[]⟩:ByteArray)]) aq;have hz1:(dz(xs.length+1-k)[.string(⟨#[]⟩:ByteArray),.string(⟨#[]⟩:ByteArray)]).length=(xs.length+1-k)*2:=nK _ _
    have hz2:(dz(nc-(k-0+(xs.length+1-k)))[.string(⟨#[]⟩:ByteArray),.string(⟨#[]⟩:ByteArray)]).length=(nc-(k-0+(xs.length+1-k)))*2:=nK _ _;have hncl:k-0+(xs.length+1-k)=xs.length+1:=by omega
    rw[cH];have hsz:h.size≠vb:=fun e=>by have:=bD hv;omega
    have hszb:h.size≠b:=fun e=>by have:=bD hc;omega
    have hbc:=kn.get0 hc;have hvc:=kn.get0 hv;generalize hnew h _ aq=h9 at kn bn hbc hvc;rw[hncl]at hnc hz2⊢;have m1:dR 1(xs.length+1-k)=1:=bG(by omega);have m2:dR(xs.length-k)(xs.length+1-(k+1))=xs.length-k:=bG(by omega);rw[m1];have xr9:SRow h9(some ⟨vb,0,none⟩)(1*2) X:=lC hvc(by rw[hxl])(by rw[cn,aZ];rw[hxl];omega);refine⟨by omega,?_⟩
    rw[jQ(by omega)];refine lg xr9 hx1 bn(by simp only[ad,hA,hz1];omega)fun h11 hb11 hu11=>⟨by omega,?_⟩
    simp only[Bd];rw[jQ(by omega),jQ(by omega),m2];refine⟨by omega,?_⟩;have hbc11:=hu11.get hbc(fun e=>hszb e.symm)
    have br:SRow h11(some ⟨b,0+k*2,none⟩)((xs.length-k)*2) B:=lC hbc11 hB(by
     rw[aQ,aA,←hA,fP,←hB,gt])
    refine lg br hone hb11 ?_ fun h16 hb16 hu16=>?_
    ·simp only[ad,aI,aO,hA,hz1,hxl];omega
    ·refine hK _ _ ⟨by simp;omega,fS,hnc,.inr ⟨h.size,dz(nc-(xs.length+1))[.string(⟨#[]⟩:ByteArray),.string(⟨#[]⟩:ByteArray)],rfl,hM _(au _),?_,by rw[nK];rfl⟩⟩ ((kn.wide.trans(M':=(·=h.size)) hu11 fun b hb=>.inl(hb▸hM _(au _))).trans(M':=(·=h.size)) hu16 fun b hb=>.inl(hb▸hM _(au _)))
     rw[hb16,hins];have:=IP(A:=A)(X:=X)(B:=B)(Z1:=dz(xs.length+1-k)[.string(⟨#[]⟩:ByteArray),.string(⟨#[]⟩:ByteArray)])(Z2:=dz(nc-(xs.length+1))[.string(⟨#[]⟩:ByteArray),.string(⟨#[]⟩:ByteArray)])(r:=(xs.length-k)*2) hA hxl(by rw[hz1,←gJ];congr 1;omega);rw[hncl,←this];simp only[aQ,gJ,qU]
 ·have hcl:xs.length+1≤s.cap:=by omega
  refine⟨by omega,?_⟩;simp only[Bd,dQ];rw[sub_zero,jQ(show s.cap≠k+1 by omega),jQ(show s.cap≠k by omega)]
  refine⟨by omega,?_⟩;have hrl:2≤rest.length:=by rw[hr];exact pP _(by omega)
  refine ID hv hc hbv(by rw[dE,ad];omega) ?_;refine ar.2 ⟨by omega,by omega,?_⟩
  have m1:dR 1(xs.length+1-k)=1:=bG(by omega);have m2:dR(xs.length+1-k)(xs.length+1-(k+1))=xs.length-k:=by
   rw[show xs.length+1-(k+1)=xs.length-k by omega];exact ga(by omega)
  rw[m2];have br:SRow h(some ⟨b,0+k*2,none⟩)((xs.length-k)*2) B:=lC hc hB(by
   rw[aQ,aA,←hA,fP,←hB,gt])
  refine lg br hone hc(by simp only[ad,hA,hB];omega)fun h1 hb1 hu1=>⟨by omega,?_⟩
  rw[m1];have xr1:SRow h1(some ⟨vb,0,none⟩)(1*2) X:=lC(hu1.get hv hbv)(by rw[hxl])(by rw[cn,aZ];rw[hxl];omega);refine lg xr1 hx1 hb1(by simp only[ad,aI,aO,hA,hB];omega)fun h2 hb2 hu2=>?_
  refine hK _ _ ⟨by simp;omega,fS,hcl,.inr ⟨b,rest.drop 2,rfl,hb,?_,?_⟩⟩ ((hu1.mono fun _ e=>.inl(e▸hb)).tr(hu2.mono fun _ e=>.inl(e▸hb)))
  ·rw[hb2,hins]
   have:=MP(A:=A)(X:=X)(B:=B)(R:=rest)(q:=2)(r:=(xs.length-k)*2) hA hB hrl;rw[←this];simp only[aQ,gJ,qU]
  ·rw[aO,hr]
   simp only;rw[hlen];omega
abbrev q9(x:Option Addr):List Value:= [.pointer x]
theorem qZ(x:Option Addr):(q9 x).length=1∧0<1:=⟨rfl,by omega⟩
theorem D4:∀xs:List (Option Addr),cf (xs.flatMap q9)=true
 | []=>rfl
 |x::xs=>by rw[aX];exact mN rfl (D4 xs)
theorem IE{h:af}{vb b o la ca lb cb:Nat}{cv cw:Array Value}{tv tb:TypeId}(hv:h[vb]?=some(.cells cv tv(0,0)))(hb:h[b]?=some(.cells cw tb(0,0)))(hn:vb≠b)(h0:cw.size≠0){K:Bool→af→Prop}(hk:K false h):
  HC PG ia[.slice(some ⟨vb,0,none⟩) la ca,.slice(some ⟨b,o,none⟩) lb cb][.c .bool] K h:=by
 refine⟨fun w hw=>.inr ⟨.bool false,w,?_,Tame.refl w,false,rfl,hw▸hk⟩⟩
 subst hw;rw[qP];have:=Lib.run_overlaps_apart(P:=PG) w qX p4 bN(by kernel_rfl)(bX PG bN)(qH(by kernel_rfl)) ⟨vb,0,none⟩ ⟨b,o,none⟩ la ca lb cb hn tv tb cv.size cw.size
  (by simp[World.shape?,hv])(by simp[World.shape?,hb]) h0(by simp[World.frozen?,hv])(by simp[World.frozen?,hv])
 rw[show([Value.slice(some ⟨vb,0,none⟩) la ca,Value.slice(some ⟨b,o,none⟩) lb cb]:List Value).toArray= #[.slice(some ⟨vb,0,none⟩) la ca,.slice(some ⟨b,o,none⟩) lb cb]from rfl,this]
 rfl
set_option maxRecDepth 4000 in
theorem MO{M:Nat→Prop}{h:af}{s:SliceV}{xs:List(Option Addr)}(hs:OwnS q9 1 bN M h s xs){k:Nat}(hkl:k≤xs.length)(hn:(xs.length+1)*8≤140737488355328){x:Option Addr}{vb:Nat}(hv:h[vb]?=some(.cells(q9 x).toArray bN(0,0)))
  (hvM:¬M vb)(hM:∀b,h.size≤b→M b){K:SliceV→af→Prop}(hK:∀s' h',OwnS q9 1 bN M h' s'(xs.take k++x::xs.drop k)→Upd M h h'→K s' h'):
  HC PG cE[.slice s.a s.len s.cap,.int .i64 k,.slice(some ⟨vb,0,none⟩) 1 1][.c .slice] K h:=by
 refine li s k ⟨some ⟨vb,0,none⟩,1,1⟩ ?_;unfold gH;have hlen:=hs.len;have hcap:=hs.cap;have hxr:SRow h(some ⟨vb,0,none⟩)(1*1)(q9 x):=⟨rfl,.inr ⟨_,rfl,pd hv fun i v hi=>by simpa using hi⟩⟩
 refine⟨by omega,al.2 ?_⟩;refine CondP.intro(fun e=>?_)fun e=>?_
 ·have e:k=xs.length:=by have:=of_decide_eq_true(by simpa using e:decide((k:Int)=(s.len:Int))=true);omega
  subst e;refine⟨_,hxr,AppP.own(ys:= [x]) hs rfl(by simp) rfl rfl(by omega)(by simp;omega)(hM _(au _))fun s' h' ho hu=>hK s' h' ?_ hu⟩
  rw[bR,qp];exact ho
 have hlt:k<xs.length:=by
  rcases cg k xs.length with h|h
  ·exact h
  ·have:((k:Int)==(s.len:Int))=true:=by rw[beq_iff_eq];omega
   rw[this]at e;cases e
 rcases hs.blk with h0|⟨b,rest,ha,hb,hc,hr⟩
 ·omega
 have hA:((xs.take k).flatMap q9).length=k*1:=by rw[kM qZ,aI,bG hkl]
 have hB:((xs.drop k).flatMap q9).length=(xs.length-k)*1:=by rw[kM qZ,aO]
 have hbv:vb≠b:=fun e=>hvM(e▸hb)
 rw[yZ(f:=q9) xs k]at hc;have hins:(xs.take k++x::xs.drop k).flatMap q9=(xs.take k).flatMap q9++(q9 x++(xs.drop k).flatMap q9):=by rw[bZ,aX]
 have hone:=D4(xs.drop k);have hxl:(q9 x).length=1:=rfl;have hx1:cf(q9 x)=true:=rfl;generalize hAe:(xs.take k).flatMap q9=A at hA hc hins;generalize hBe:(xs.drop k).flatMap q9=B at hB hc hins hone;generalize q9 x=X at hxr hxl hv hins hx1;rw[ha];have w1:ac .i64((xs.length:Int)+((1:Nat):Int))=((xs.length+1:Nat):Int):=by rw[cR(by omega)];omega
 have w2:ac .i64((k:Int)+((1:Nat):Int))=((k+1:Nat):Int):=by rw[cR(by omega)];omega
 have w3:ac .i64(((xs.length+1:Nat):Int)-(k:Int))=((xs.length+1-k:Nat):Int):=by rw[cR(by omega)];omega
 simp only[w1,w2,w3,aY,hlen];refine ay(fun hgt=>?_)fun hle=>?_
 ·
  have hcl:s.cap=xs.length:=by omega
  refine Join.plain ⟨by omega,⟨by omega,by omega,by omega,by omega⟩,fun hin=>?_,fun hout=>?_⟩
  ·omega
  ·refine⟨A,_,?_,rfl,by omega,Go.growslice_fits hout(by omega),fun nc hnc=>?_⟩
   ·rw[sub_zero]
    exact lC hc(by rw[hA];omega)(by simp only[cn,dQ];rw[aA,←hA,fC(au _),bR])
   ·simp only[aY]at hnc⊢
    have kn:=Upd.hnew No h(A++dz(xs.length+1-k)[.pointer none]++dz(nc-(k-0+(xs.length+1-k)))[.pointer none]) bN;have bn:=bW h(A++dz(xs.length+1-k)[.pointer none]++dz(nc-(k-0+(xs.length+1-k)))[.pointer none]) bN;have hz1:(dz(xs.length+1-k)[.pointer none]).length=(xs.length+1-k)*1:=nK _ _;have hz2:(dz(nc-(k-0+(xs.length+1-k)))[.pointer none]).length=(nc-(k-0+(xs.length+1-k)))*1:=nK _ _
    have hncl:k-0+(xs.length+1-k)=xs.length+1:=by omega
    rw[cH];have hsz:h.size≠vb:=fun e=>by have:=bD hv;omega
    have hszb:h.size≠b:=fun e=>by have:=bD hc;omega
    have hbc:=kn.get0 hc;have hvc:=kn.get0 hv;generalize hnew h _ bN=h9 at kn bn hbc hvc;rw[hncl]at hnc hz2⊢;have m1:dR 1(xs.length+1-k)=1:=bG(by omega);have m2:dR(xs.length-k)(xs.length+1-(k+1))=xs.length-k:=bG(by omega);rw[m1];have xr9:SRow h9(some ⟨vb,0,none⟩)(1*1) X:=lC hvc(by rw[hxl])(by rw[cn,aZ];rw[hxl];omega);refine⟨by omega,?_⟩
    rw[jQ(by omega)];refine lg xr9 hx1 bn(by simp only[ad,hA,hz1];omega)fun h11 hb11 hu11=>⟨by omega,?_⟩
    simp only[Bd];rw[jQ(by omega),jQ(by omega),m2];refine⟨by omega,?_⟩;have hbc11:=hu11.get hbc(fun e=>hszb e.symm)
    have br:SRow h11(some ⟨b,0+k*1,none⟩)((xs.length-k)*1) B:=lC hbc11 hB(by
     rw[aQ,aA,←hA,fP,←hB,gt])
    refine lg br hone hb11 ?_ fun h16 hb16 hu16=>?_
    ·simp only[ad,aI,aO,hA,hz1,hxl];omega
    ·refine hK _ _ ⟨by simp;omega,qZ,hnc,.inr ⟨h.size,dz(nc-(xs.length+1))[.pointer none],rfl,hM _(au _),?_,by rw[nK];rfl⟩⟩ ((kn.wide.trans(M':=(·=h.size)) hu11 fun b hb=>.inl(hb▸hM _(au _))).trans(M':=(·=h.size)) hu16 fun b hb=>.inl(hb▸hM _(au _)))
     rw[hb16,hins];have:=IP(A:=A)(X:=X)(B:=B)(Z1:=dz(xs.length+1-k)[.pointer none])(Z2:=dz(nc-(xs.length+1))[.pointer none])(r:=(xs.length-k)*1) hA hxl(by rw[hz1,←gJ];congr 1;omega);rw[hncl,←this];simp only[aQ,gJ,qU]
 ·have hcl:xs.length+1≤s.cap:=by omega
  refine⟨by omega,?_⟩;simp only[Bd,dQ];rw[sub_zero,jQ(show s.cap≠k+1 by omega),jQ(show s.cap≠k by omega)]
  refine⟨by omega,?_⟩;have hrl:1≤rest.length:=by rw[hr];exact pP _(by omega)
  refine IE hv hc hbv(by rw[dE,ad];omega) ?_;refine ar.2 ⟨by omega,by omega,?_⟩
  have m1:dR 1(xs.length+1-k)=1:=bG(by omega);have m2:dR(xs.length+1-k)(xs.length+1-(k+1))=xs.length-k:=by
   rw[show xs.length+1-(k+1)=xs.length-k by omega];exact ga(by omega)
  rw[m2];have br:SRow h(some ⟨b,0+k*1,none⟩)((xs.length-k)*1) B:=lC hc hB(by
   rw[aQ,aA,←hA,fP,←hB,gt])
  refine lg br hone hc(by simp only[ad,hA,hB];omega)fun h1 hb1 hu1=>⟨by omega,?_⟩
  rw[m1];have xr1:SRow h1(some ⟨vb,0,none⟩)(1*1) X:=lC(hu1.get hv hbv)(by rw[hxl])(by rw[cn,aZ];rw[hxl];omega);refine lg xr1 hx1 hb1(by simp only[ad,aI,aO,hA,hB];omega)fun h2 hb2 hu2=>?_
  refine hK _ _ ⟨by simp;omega,qZ,hcl,.inr ⟨b,rest.drop 1,rfl,hb,?_,?_⟩⟩ ((hu1.mono fun _ e=>.inl(e▸hb)).tr(hu2.mono fun _ e=>.inl(e▸hb)))
  ·rw[hb2,hins]
   have:=MP(A:=A)(X:=X)(B:=B)(R:=rest)(q:=1)(r:=(xs.length-k)*1) hA hB hrl;rw[←this];simp only[aQ,gJ,qU]
  ·rw[aO,hr]
   simp only;rw[hlen];omega
abbrev oZ(x:Option Addr):List Value:= [.pointer x]
theorem mg(x:Option Addr):(oZ x).length=1∧0<1:=⟨rfl,by omega⟩
theorem D3:∀xs:List (Option Addr),cf (xs.flatMap oZ)=true
 | []=>rfl
 |x::xs=>by rw[aX];exact mN rfl (D3 xs)
theorem IC{h:af}{vb b o la ca lb cb:Nat}{cv cw:Array Value}{tv tb:TypeId}(hv:h[vb]?=some(.cells cv tv(0,0)))(hb:h[b]?=some(.cells cw tb(0,0)))(hn:vb≠b)(h0:cw.size≠0){K:Bool→af→Prop}(hk:K false h):
  HC PG gT[.slice(some ⟨vb,0,none⟩) la ca,.slice(some ⟨b,o,none⟩) lb cb][.c .bool] K h:=by
 refine⟨fun w hw=>.inr ⟨.bool false,w,?_,Tame.refl w,false,rfl,hw▸hk⟩⟩
 subst hw;rw[qj];have:=Lib.run_overlaps_apart(P:=PG) w p5 p4 aS(by kernel_rfl)(bX PG aS)(qH(by kernel_rfl)) ⟨vb,0,none⟩ ⟨b,o,none⟩ la ca lb cb hn tv tb cv.size cw.size
  (by simp[World.shape?,hv])(by simp[World.shape?,hb]) h0(by simp[World.frozen?,hv])(by simp[World.frozen?,hv])
 rw[show([Value.slice(some ⟨vb,0,none⟩) la ca,Value.slice(some ⟨b,o,none⟩) lb cb]:List Value).toArray= #[.slice(some ⟨vb,0,none⟩) la ca,.slice(some ⟨b,o,none⟩) lb cb]from rfl,this]
 rfl
set_option maxRecDepth 4000 in
theorem MM{M:Nat→Prop}{h:af}{s:SliceV}{xs:List(Option Addr)}(hs:OwnS oZ 1 aS M h s xs){k:Nat}(hkl:k≤xs.length)(hn:(xs.length+1)*8≤140737488355328){x:Option Addr}{vb:Nat}(hv:h[vb]?=some(.cells(oZ x).toArray aS(0,0)))
  (hvM:¬M vb)(hM:∀b,h.size≤b→M b){K:SliceV→af→Prop}(hK:∀s' h',OwnS oZ 1 aS M h' s'(xs.take k++x::xs.drop k)→Upd M h h'→K s' h'):
  HC PG dZ[.slice s.a s.len s.cap,.int .i64 k,.slice(some ⟨vb,0,none⟩) 1 1][.c .slice] K h:=by
 refine ki s k ⟨some ⟨vb,0,none⟩,1,1⟩ ?_;unfold gd;have hlen:=hs.len;have hcap:=hs.cap;have hxr:SRow h(some ⟨vb,0,none⟩)(1*1)(oZ x):=⟨rfl,.inr ⟨_,rfl,pd hv fun i v hi=>by simpa using hi⟩⟩
 refine⟨by omega,al.2 ?_⟩;refine CondP.intro(fun e=>?_)fun e=>?_
 ·have e:k=xs.length:=by have:=of_decide_eq_true(by simpa using e:decide((k:Int)=(s.len:Int))=true);omega
  subst e;refine⟨_,hxr,AppP.own(ys:= [x]) hs rfl(by simp) rfl rfl(by omega)(by simp;omega)(hM _(au _))fun s' h' ho hu=>hK s' h' ?_ hu⟩
  rw[bR,qp];exact ho
 have hlt:k<xs.length:=by
  rcases cg k xs.length with h|h
  ·exact h
  ·have:((k:Int)==(s.len:Int))=true:=by rw[beq_iff_eq];omega
   rw[this]at e;cases e
 rcases hs.blk with h0|⟨b,rest,ha,hb,hc,hr⟩
 ·omega
 have hA:((xs.take k).flatMap oZ).length=k*1:=by rw[kM mg,aI,bG hkl]
 have hB:((xs.drop k).flatMap oZ).length=(xs.length-k)*1:=by rw[kM mg,aO]
 have hbv:vb≠b:=fun e=>hvM(e▸hb)
 rw[yZ(f:=oZ) xs k]at hc;have hins:(xs.take k++x::xs.drop k).flatMap oZ=(xs.take k).flatMap oZ++(oZ x++(xs.drop k).flatMap oZ):=by rw[bZ,aX]
 have hone:=D3(xs.drop k);have hxl:(oZ x).length=1:=rfl;have hx1:cf(oZ x)=true:=rfl;generalize hAe:(xs.take k).flatMap oZ=A at hA hc hins;generalize hBe:(xs.drop k).flatMap oZ=B at hB hc hins hone;generalize oZ x=X at hxr hxl hv hins hx1;rw[ha];have w1:ac .i64((xs.length:Int)+((1:Nat):Int))=((xs.length+1:Nat):Int):=by rw[cR(by omega)];omega
 have w2:ac .i64((k:Int)+((1:Nat):Int))=((k+1:Nat):Int):=by rw[cR(by omega)];omega
 have w3:ac .i64(((xs.length+1:Nat):Int)-(k:Int))=((xs.length+1-k:Nat):Int):=by rw[cR(by omega)];omega
 simp only[w1,w2,w3,aY,hlen];refine ay(fun hgt=>?_)fun hle=>?_
 ·
  have hcl:s.cap=xs.length:=by omega
  refine Join.plain ⟨by omega,⟨by omega,by omega,by omega,by omega⟩,fun hin=>?_,fun hout=>?_⟩
  ·omega
  ·refine⟨A,_,?_,rfl,by omega,Go.growslice_fits hout(by omega),fun nc hnc=>?_⟩
   ·rw[sub_zero]
    exact lC hc(by rw[hA];omega)(by simp only[cn,dQ];rw[aA,←hA,fC(au _),bR])
   ·simp only[aY]at hnc⊢
    have kn:=Upd.hnew No h(A++dz(xs.length+1-k)[.pointer none]++dz(nc-(k-0+(xs.length+1-k)))[.pointer none]) aS;have bn:=bW h(A++dz(xs.length+1-k)[.pointer none]++dz(nc-(k-0+(xs.length+1-k)))[.pointer none]) aS;have hz1:(dz(xs.length+1-k)[.pointer none]).length=(xs.length+1-k)*1:=nK _ _;have hz2:(dz(nc-(k-0+(xs.length+1-k)))[.pointer none]).length=(nc-(k-0+(xs.length+1-k)))*1:=nK _ _
    have hncl:k-0+(xs.length+1-k)=xs.length+1:=by omega
    rw[cH];have hsz:h.size≠vb:=fun e=>by have:=bD hv;omega
    have hszb:h.size≠b:=fun e=>by have:=bD hc;omega
    have hbc:=kn.get0 hc;have hvc:=kn.get0 hv;generalize hnew h _ aS=h9 at kn bn hbc hvc;rw[hncl]at hnc hz2⊢;have m1:dR 1(xs.length+1-k)=1:=bG(by omega);have m2:dR(xs.length-k)(xs.length+1-(k+1))=xs.length-k:=bG(by omega);rw[m1];have xr9:SRow h9(some ⟨vb,0,none⟩)(1*1) X:=lC hvc(by rw[hxl])(by rw[cn,aZ];rw[hxl];omega);refine⟨by omega,?_⟩
    rw[jQ(by omega)];refine lg xr9 hx1 bn(by simp only[ad,hA,hz1];omega)fun h11 hb11 hu11=>⟨by omega,?_⟩
    simp only[Bd];rw[jQ(by omega),jQ(by omega),m2];refine⟨by omega,?_⟩;have hbc11:=hu11.get hbc(fun e=>hszb e.symm)
    have br:SRow h11(some ⟨b,0+k*1,none⟩)((xs.length-k)*1) B:=lC hbc11 hB(by
     rw[aQ,aA,←hA,fP,←hB,gt])
    refine lg br hone hb11 ?_ fun h16 hb16 hu16=>?_
    ·simp only[ad,aI,aO,hA,hz1,hxl];omega
    ·refine hK _ _ ⟨by simp;omega,mg,hnc,.inr ⟨h.size,dz(nc-(xs.length+1))[.pointer none],rfl,hM _(au _),?_,by rw[nK];rfl⟩⟩ ((kn.wide.trans(M':=(·=h.size)) hu11 fun b hb=>.inl(hb▸hM _(au _))).trans(M':=(·=h.size)) hu16 fun b hb=>.inl(hb▸hM _(au _)))
     rw[hb16,hins];have:=IP(A:=A)(X:=X)(B:=B)(Z1:=dz(xs.length+1-k)[.pointer none])(Z2:=dz(nc-(xs.length+1))[.pointer none])(r:=(xs.length-k)*1) hA hxl(by rw[hz1,←gJ];congr 1;omega);rw[hncl,←this];simp only[aQ,gJ,qU]
 ·have hcl:xs.length+1≤s.cap:=by omega
  refine⟨by omega,?_⟩;simp only[Bd,dQ];rw[sub_zero,jQ(show s.cap≠k+1 by omega),jQ(show s.cap≠k by omega)]
  refine⟨by omega,?_⟩;have hrl:1≤rest.length:=by rw[hr];exact pP _(by omega)
  refine IC hv hc hbv(by rw[dE,ad];omega) ?_;refine ar.2 ⟨by omega,by omega,?_⟩
  have m1:dR 1(xs.length+1-k)=1:=bG(by omega);have m2:dR(xs.length+1-k)(xs.length+1-(k+1))=xs.length-k:=by
   rw[show xs.length+1-(k+1)=xs.length-k by omega];exact ga(by omega)
  rw[m2];have br:SRow h(some ⟨b,0+k*1,none⟩)((xs.length-k)*1) B:=lC hc hB(by
   rw[aQ,aA,←hA,fP,←hB,gt])
  refine lg br hone hc(by simp only[ad,hA,hB];omega)fun h1 hb1 hu1=>⟨by omega,?_⟩
  rw[m1];have xr1:SRow h1(some ⟨vb,0,none⟩)(1*1) X:=lC(hu1.get hv hbv)(by rw[hxl])(by rw[cn,aZ];rw[hxl];omega);refine lg xr1 hx1 hb1(by simp only[ad,aI,aO,hA,hB];omega)fun h2 hb2 hu2=>?_
  refine hK _ _ ⟨by simp;omega,mg,hcl,.inr ⟨b,rest.drop 1,rfl,hb,?_,?_⟩⟩ ((hu1.mono fun _ e=>.inl(e▸hb)).tr(hu2.mono fun _ e=>.inl(e▸hb)))
  ·rw[hb2,hins]
   have:=MP(A:=A)(X:=X)(B:=B)(R:=rest)(q:=1)(r:=(xs.length-k)*1) hA hB hrl;rw[←this];simp only[aQ,gJ,qU]
  ·rw[aO,hr]
   simp only;rw[hlen];omega
end Go.Proofs
namespace Go.Proofs
open Go Go.Lift
theorem uH{W:Nat→Prop}{h:af}{s:SliceV}{xs:List(ByteArray×ByteArray)}(h1:Sl ee 2 W h s xs)(hn:xs.length*32≤140737488355328){K:SliceV→af→Prop}
  (hk:∀s' h',OwnS ee 2 aq(fun b=>h.size≤b) h' s' xs→Upd No h h'→K s' h'):HC PG cC [.slice s.a s.len s.cap] [.c .slice] K h:=by
 refine nv s ?_;unfold iG;refine CondP.intro (fun he=>?_) (fun hne=>?_)
 ·have he:s.a=none:=by simpa using he
  have hx:xs= []:=by
   by_cases hx:xs= []
   ·exact hx
   ·obtain⟨a,ha,_⟩:=h1.row hx
    rw[he]at ha;cases ha
  subst hx;exact hk _ _ (OwnS.nil fS) (Upd.refl _ _)
 ·have h2:=h1.upd (Upd.hnew No h [] aq) (fun _ h=>h.elim)
  refine⟨_,h2.srow,?_⟩;refine AppP.own (f:=ee) (M:=fun b=>h.size≤b) (xs:= []) (ys:=xs) ⟨rfl,fS,au _,.inl rfl⟩ h1.len rfl (vn xs) rfl (by omega) (by simpa using hn) (by rw[ja];omega)fun s' h' ho hu=>?_
  exact hk _ _ ho ((Upd.hnew No h [] aq).trans hu fun b hb=>.inr hb)
theorem M0{M:Nat→Prop}{h:af}{s:SliceV}{xs:List(ByteArray×ByteArray)}(hs:OwnS ee 2 aq M h s xs){k:Nat}(hkl:k<xs.length)(hn:xs.length≤4398046511104)
  {K:SliceV→af→Prop}(hK:∀s' h',OwnS ee 2 aq M h' s'(xs.take k++xs.drop(k+1))→Upd M h h'→K s' h'):
  HC PG ff [.slice s.a s.len s.cap,.int .i64 k,.int .i64 ((k+1:Nat):Int)] [.c .slice] K h:=by
 refine mY s k ((k+1:Nat):Int) ?_;unfold im;have hlen:=hs.len;have hcap:=hs.cap;rcases hs.blk with h0|⟨b,rest,ha,hb,hc,hr⟩
 ·omega
 have hA:((xs.take k).flatMap ee).length=k*2:=by rw[kM fS,aI,bG (by omega)]
 have hB:((xs.drop (k+1)).flatMap ee).length=(xs.length-(k+1))*2:=by rw[kM fS,aO]
 have e1:xs.flatMap ee=(xs.take k).flatMap ee++(ee xs[k]++(xs.drop (k+1)).flatMap ee):=by
  rw[←aX,←eh hkl];exact yZ xs k
 rw[e1]at hc;have hone:=vn (xs.drop (k+1));have hins:(xs.take k++xs.drop (k+1)).flatMap ee=(xs.take k).flatMap ee++(xs.drop (k+1)).flatMap ee:=bZ;have hX:(ee xs[k]).length=2:=rfl;generalize (xs.take k).flatMap ee=A at hA hc hins;generalize (xs.drop (k+1)).flatMap ee=B at hB hc hone hins;generalize ee xs[k]=X at hX hc;rw[ha];simp only[hlen,aY];refine⟨by omega,by omega,by omega,CondP.intro (fun e=>?_)fun _=>?_⟩
 ·have:(k:Int)=((k+1:Nat):Int):=by simpa using e
  omega
 refine Join.plain ⟨by omega,by omega,B,?_,?_⟩
 ·by_cases hlast:xs.length=k+1
  ·exact⟨hB,.inl (av.1 (by rw[hB,hlast,dk,vP]))⟩
  rw[jQ (by omega)];refine lC hc hB ?_;have:(A++X).length=0+(k+1)*2:=by rw[ad];omega
  rw[show A++(X++B)++rest=(A++X)++(B++rest)by simp only[aA],co this,cL hB]
 ·rw[sub_zero]
  refine Na hc (by simp only[ad];omega) (by omega) hone fun h1 hb1 hu1=>?_
  have hr':rest.length=(s.cap-xs.length)*2:=by rw[hr,hlen]
  refine⟨by dsimp only;omega,by dsimp only;omega,?_⟩
  simp only[Bd];rw[jQ (by omega)];have en:xs.length-(k-0+(xs.length-(k+1)))=1:=by omega
  have hd1:(A++(X++B)++rest).drop ((k-0)*2+B.length)=(X++B).drop B.length++rest:=by
   rw[aA,←dF,co (show A.length=(k-0)*2 by rw[hA,dQ]),fF (by rw[ad];omega)]
  have ht1:(A++(X++B)++rest).take ((k-0)*2)=A:=by rw[aA,cL (show A.length=(k-0)*2 by rw[hA,dQ])]
  rw[hd1,ht1]at hb1;have hdl:((X++B).drop B.length).length=2:=by rw[aO,ad];omega
  generalize (X++B).drop B.length=D at hdl hb1;rw[en];have hz:(dz 1 [.string (⟨#[]⟩:ByteArray),.string (⟨#[]⟩:ByteArray)]).length=2:=rfl;have hAB:(A++B).length=0+(k-0+(xs.length-(k+1)))*2:=by rw[ad,hA,hB];omega
  refine Iz hb1 (by simp only[ad]at hAB⊢;omega)fun h2 hb2 hu2=>?_
  rw[cL hAB,←dF,co hAB]at hb2;refine hK _ _ ⟨by simp;omega,fS,by simp only;omega,.inr ⟨b,dz 1 [.string (⟨#[]⟩:ByteArray),.string (⟨#[]⟩:ByteArray)]++(D++rest).drop (dz 1 [.string (⟨#[]⟩:ByteArray),.string (⟨#[]⟩:ByteArray)]).length,rfl,hb,?_,?_⟩⟩ ((hu1.mono fun _ e=>.inl (e▸hb)).tr (hu2.mono fun _ e=>.inl (e▸hb)))
  ·rw[hb2,hins];simp only[aA]
  ·simp only[ad,aO,hz,hdl,hr']
   omega
theorem B5{W:Nat→Prop}{h:af}{s:SliceV}{xs:List(Option Addr)}(h1:Sl q9 1 W h s xs)(hn:xs.length*8≤140737488355328){K:SliceV→af→Prop}
  (hk:∀s' h',OwnS q9 1 bN(fun b=>h.size≤b) h' s' xs→Upd No h h'→K s' h'):HC PG dh [.slice s.a s.len s.cap] [.c .slice] K h:=by
 refine lH s ?_;unfold gQ;refine CondP.intro (fun he=>?_) (fun hne=>?_)
 ·have he:s.a=none:=by simpa using he
  have hx:xs= []:=by
   by_cases hx:xs= []
   ·exact hx
   ·obtain⟨a,ha,_⟩:=h1.row hx
    rw[he]at ha;cases ha
  subst hx;exact hk _ _ (OwnS.nil qZ) (Upd.refl _ _)
 ·have h2:=h1.upd (Upd.hnew No h [] bN) (fun _ h=>h.elim)
  refine⟨_,h2.srow,?_⟩;refine AppP.own (f:=q9) (M:=fun b=>h.size≤b) (xs:= []) (ys:=xs) ⟨rfl,qZ,au _,.inl rfl⟩ h1.len rfl (D4 xs) rfl (by omega) (by simpa using hn) (by rw[ja];omega)fun s' h' ho hu=>?_
  exact hk _ _ ho ((Upd.hnew No h [] bN).trans hu fun b hb=>.inr hb)
theorem M1{M:Nat→Prop}{h:af}{s:SliceV}{xs:List(Option Addr)}(hs:OwnS q9 1 bN M h s xs){k:Nat}(hkl:k<xs.length)(hn:xs.length≤4398046511104)
  {K:SliceV→af→Prop}(hK:∀s' h',OwnS q9 1 bN M h' s'(xs.take k++xs.drop(k+1))→Upd M h h'→K s' h'):
  HC PG eD [.slice s.a s.len s.cap,.int .i64 k,.int .i64 ((k+1:Nat):Int)] [.c .slice] K h:=by
 refine ll s k ((k+1:Nat):Int) ?_;unfold gI;have hlen:=hs.len;have hcap:=hs.cap;rcases hs.blk with h0|⟨b,rest,ha,hb,hc,hr⟩
 ·omega
 have hA:((xs.take k).flatMap q9).length=k*1:=by rw[kM qZ,aI,bG (by omega)]
 have hB:((xs.drop (k+1)).flatMap q9).length=(xs.length-(k+1))*1:=by rw[kM qZ,aO]
 have e1:xs.flatMap q9=(xs.take k).flatMap q9++(q9 xs[k]++(xs.drop (k+1)).flatMap q9):=by
  rw[←aX,←eh hkl];exact yZ xs k
 rw[e1]at hc;have hone:=D4 (xs.drop (k+1));have hins:(xs.take k++xs.drop (k+1)).flatMap q9=(xs.take k).flatMap q9++(xs.drop (k+1)).flatMap q9:=bZ;have hX:(q9 xs[k]).length=1:=rfl;generalize (xs.take k).flatMap q9=A at hA hc hins;generalize (xs.drop (k+1)).flatMap q9=B at hB hc hone hins;generalize q9 xs[k]=X at hX hc;rw[ha];simp only[hlen,aY];refine⟨by omega,by omega,by omega,CondP.intro (fun e=>?_)fun _=>?_⟩
 ·have:(k:Int)=((k+1:Nat):Int):=by simpa using e
  omega
 refine Join.plain ⟨by omega,by omega,B,?_,?_⟩
 ·by_cases hlast:xs.length=k+1
  ·exact⟨hB,.inl (av.1 (by rw[hB,hlast,dk,vP]))⟩
  rw[jQ (by omega)];refine lC hc hB ?_;have:(A++X).length=0+(k+1)*1:=by rw[ad];omega
  rw[show A++(X++B)++rest=(A++X)++(B++rest)by simp only[aA],co this,cL hB]
 ·rw[sub_zero]
  refine Na hc (by simp only[ad];omega) (by omega) hone fun h1 hb1 hu1=>?_
  have hr':rest.length=(s.cap-xs.length)*1:=by rw[hr,hlen]
  refine⟨by dsimp only;omega,by dsimp only;omega,?_⟩
  simp only[Bd];rw[jQ (by omega)];have en:xs.length-(k-0+(xs.length-(k+1)))=1:=by omega
  have hd1:(A++(X++B)++rest).drop ((k-0)*1+B.length)=(X++B).drop B.length++rest:=by
   rw[aA,←dF,co (show A.length=(k-0)*1 by rw[hA,dQ]),fF (by rw[ad];omega)]
  have ht1:(A++(X++B)++rest).take ((k-0)*1)=A:=by rw[aA,cL (show A.length=(k-0)*1 by rw[hA,dQ])]
  rw[hd1,ht1]at hb1;have hdl:((X++B).drop B.length).length=1:=by rw[aO,ad];omega
  generalize (X++B).drop B.length=D at hdl hb1;rw[en];have hz:(dz 1 [.pointer none]).length=1:=rfl;have hAB:(A++B).length=0+(k-0+(xs.length-(k+1)))*1:=by rw[ad,hA,hB];omega
  refine Iz hb1 (by simp only[ad]at hAB⊢;omega)fun h2 hb2 hu2=>?_
  rw[cL hAB,←dF,co hAB]at hb2;refine hK _ _ ⟨by simp;omega,qZ,by simp only;omega,.inr ⟨b,dz 1 [.pointer none]++(D++rest).drop (dz 1 [.pointer none]).length,rfl,hb,?_,?_⟩⟩ ((hu1.mono fun _ e=>.inl (e▸hb)).tr (hu2.mono fun _ e=>.inl (e▸hb)))
  ·rw[hb2,hins];simp only[aA]
  ·simp only[ad,aO,hz,hdl,hr']
   omega
theorem HW{W:Nat→Prop}{h:af}{s:SliceV}{xs:List(Option Addr)}(h1:Sl oZ 1 W h s xs)(hn:xs.length*8≤140737488355328){K:SliceV→af→Prop}
  (hk:∀s' h',OwnS oZ 1 aS(fun b=>h.size≤b) h' s' xs→Upd No h h'→K s' h'):HC PG cT [.slice s.a s.len s.cap] [.c .slice] K h:=by
 refine kR s ?_;unfold gp;refine CondP.intro (fun he=>?_) (fun hne=>?_)
 ·have he:s.a=none:=by simpa using he
  have hx:xs= []:=by
   by_cases hx:xs= []
   ·exact hx
   ·obtain⟨a,ha,_⟩:=h1.row hx
    rw[he]at ha;cases ha
  subst hx;exact hk _ _ (OwnS.nil mg) (Upd.refl _ _)
 ·have h2:=h1.upd (Upd.hnew No h [] aS) (fun _ h=>h.elim)
  refine⟨_,h2.srow,?_⟩;refine AppP.own (f:=oZ) (M:=fun b=>h.size≤b) (xs:= []) (ys:=xs) ⟨rfl,mg,au _,.inl rfl⟩ h1.len rfl (D3 xs) rfl (by omega) (by simpa using hn) (by rw[ja];omega)fun s' h' ho hu=>?_
  exact hk _ _ ho ((Upd.hnew No h [] aS).trans hu fun b hb=>.inr hb)
theorem MZ{M:Nat→Prop}{h:af}{s:SliceV}{xs:List(Option Addr)}(hs:OwnS oZ 1 aS M h s xs){k:Nat}(hkl:k<xs.length)(hn:xs.length≤4398046511104)
  {K:SliceV→af→Prop}(hK:∀s' h',OwnS oZ 1 aS M h' s'(xs.take k++xs.drop(k+1))→Upd M h h'→K s' h'):
  HC PG d8 [.slice s.a s.len s.cap,.int .i64 k,.int .i64 ((k+1:Nat):Int)] [.c .slice] K h:=by
 refine kj s k ((k+1:Nat):Int) ?_;unfold ge;have hlen:=hs.len;have hcap:=hs.cap;rcases hs.blk with h0|⟨b,rest,ha,hb,hc,hr⟩
 ·omega
 have hA:((xs.take k).flatMap oZ).length=k*1:=by rw[kM mg,aI,bG (by omega)]
 have hB:((xs.drop (k+1)).flatMap oZ).length=(xs.length-(k+1))*1:=by rw[kM mg,aO]
 have e1:xs.flatMap oZ=(xs.take k).flatMap oZ++(oZ xs[k]++(xs.drop (k+1)).flatMap oZ):=by
  rw[←aX,←eh hkl];exact yZ xs k
 rw[e1]at hc;have hone:=D3 (xs.drop (k+1));have hins:(xs.take k++xs.drop (k+1)).flatMap oZ=(xs.take k).flatMap oZ++(xs.drop (k+1)).flatMap oZ:=bZ;have hX:(oZ xs[k]).length=1:=rfl;generalize (xs.take k).flatMap oZ=A at hA hc hins;generalize (xs.drop (k+1)).flatMap oZ=B at hB hc hone hins;generalize oZ xs[k]=X at hX hc;rw[ha];simp only[hlen,aY];refine⟨by omega,by omega,by omega,CondP.intro (fun e=>?_)fun _=>?_⟩
 ·have:(k:Int)=((k+1:Nat):Int):=by simpa using e
  omega
 refine Join.plain ⟨by omega,by omega,B,?_,?_⟩
 ·by_cases hlast:xs.length=k+1
  ·exact⟨hB,.inl (av.1 (by rw[hB,hlast,dk,vP]))⟩
  rw[jQ (by omega)];refine lC hc hB ?_;have:(A++X).length=0+(k+1)*1:=by rw[ad];omega
  rw[show A++(X++B)++rest=(A++X)++(B++rest)by simp only[aA],co this,cL hB]
 ·rw[sub_zero]
  refine Na hc (by simp only[ad];omega) (by omega) hone fun h1 hb1 hu1=>?_
  have hr':rest.length=(s.cap-xs.length)*1:=by rw[hr,hlen]
  refine⟨by dsimp only;omega,by dsimp only;omega,?_⟩
  simp only[Bd];rw[jQ (by omega)];have en:xs.length-(k-0+(xs.length-(k+1)))=1:=by omega
  have hd1:(A++(X++B)++rest).drop ((k-0)*1+B.length)=(X++B).drop B.length++rest:=by
   rw[aA,←dF,co (show A.length=(k-0)*1 by rw[hA,dQ]),fF (by rw[ad];omega)]
  have ht1:(A++(X++B)++rest).take ((k-0)*1)=A:=by rw[aA,cL (show A.length=(k-0)*1 by rw[hA,dQ])]
  rw[hd1,ht1]at hb1;have hdl:((X++B).drop B.length).length=1:=by rw[aO,ad];omega
  generalize (X++B).drop B.length=D at hdl hb1;rw[en];have hz:(dz 1 [.pointer none]).length=1:=rfl;have hAB:(A++B).length=0+(k-0+(xs.length-(k+1)))*1:=by rw[ad,hA,hB];omega
  refine Iz hb1 (by simp only[ad]at hAB⊢;omega)fun h2 hb2 hu2=>?_
  rw[cL hAB,←dF,co hAB]at hb2;refine hK _ _ ⟨by simp;omega,mg,by simp only;omega,.inr ⟨b,dz 1 [.pointer none]++(D++rest).drop (dz 1 [.pointer none]).length,rfl,hb,?_,?_⟩⟩ ((hu1.mono fun _ e=>.inl (e▸hb)).tr (hu2.mono fun _ e=>.inl (e▸hb)))
  ·rw[hb2,hins];simp only[aA]
  ·simp only[ad,aO,hz,hdl,hr']
   omega
end Go.Proofs
namespace Go.Proofs
open Go.Lift
abbrev Pr:=ByteArray×ByteArray
theorem B6{a b:ByteArray}:a.toList=b.toList↔a=b:=by
 constructor
 ·intro h
  rw[dS,dS]at h;cases a;cases b;simp at h;subst h;rfl
 ·rintro rfl;rfl
def kl(a b:ByteArray):Prop:=Op.bytesLess a.toList b.toList=true
instance (a b:ByteArray):Decidable (kl a b):=inferInstanceAs (Decidable (_=true))
theorem IM{a b:ByteArray}:kl a b↔a.toList<b.toList:=by unfold kl;rw[bytesLess_eq,decide_eq_true_iff]
theorem bI(a:ByteArray):¬kl a a:=by rw[IM];exact List.lt_irrefl _
theorem dV{a b c:ByteArray}(h:kl a b)(k:kl b c):kl a c:=by rw[IM]at*;exact List.lt_trans h k
theorem tri:∀x y:List UInt8,Op.bytesLess x y=false→x≠y→Op.bytesLess y x=true
 | [],[],_,h=>absurd rfl h
 | [],_::_,h,_=>by simp[Op.bytesLess]at h
 |_::_,[],_,_=>rfl
 |a::x,b::y,h,hn=>by
  simp only[Op.bytesLess,Bool.or_eq_false_iff,decide_eq_false_iff_not,Bool.and_eq_false_iff]at h;simp only[Op.bytesLess,Bool.or_eq_true,decide_eq_true_iff,Bool.and_eq_true];by_cases e:a=b
  ·subst e
   right;refine⟨by simp,tri x y ?_ fun e=>hn (by rw[e])⟩
   rcases h.2 with h|h
   ·simp at h
   ·exact h
  ·left
   have h1:=h.1;rw[UInt8.lt_iff_toNat_lt]at h1⊢;have:a.toNat≠b.toNat:=fun h=>e (UInt8.toNat_inj.1 h)
   omega
theorem mt{a b:ByteArray}(h:¬kl a b)(k:a≠b):kl b a:=tri _ _ (by unfold kl at h;simpa using h)fun e=>k (B6.1 e)
def Gk(a b:ByteArray):Int:=if kl a b then-1 else if a=b then 0 else 1
theorem KK{x:ByteArray}{h:af}{K:Bool→af→Prop}(hk:K false h):HC PG oo [.string x] [.c .bool] K h:=by
 refine DN x ?_;unfold wr;simpa using hk
theorem Ff{a b:ByteArray}{h:af}{K:Int→af→Prop}(hk:K(Gk a b) h):HC PG l3 [.string a,.string b] [.c (.int .i64)] K h:=by
 refine AP a b ?_;unfold tU;refine KK (KK (al.2 (al.2 ?_)));unfold Gk at hk;refine CondP.intro (fun e=>?_)fun e=>?_
 ·rw[if_pos (show kl a b from e)]at hk;exact hk
 ·have hn:¬kl a b:=fun h=>by rw[show Op.bytesLess a.toList b.toList=true from h]at e;cases e
  rw[if_neg hn]at hk;rw[e];refine CondP.intro (fun e2=>?_)fun e2=>?_
  ·rw[if_neg (fun h=>by subst h;simp at e2)]at hk;exact hk
  ·have:a.toList=b.toList:=by simpa using e2
   rw[if_pos (B6.1 this)]at hk;exact hk
theorem Kv{p:Pr}{k:ByteArray}{h:af}{K:Int→af→Prop}(hk:∀h',Upd No h h'→K(Gk p.1 k) h'):HC PG pr [.agg #[.string p.1,.string p.2],.string k] [.c (.int .i64)] K h:=by
 refine Jo p k ?_;unfold AY aj;have b1:=bW h [.string p.1,.string p.2] aq;refine⟨p.1,by rw[cH,cd,bj b1];rfl,Ff (hk _ (Upd.hnew No h _ _))⟩
abbrev bU(l:List Pr):Prop:=l.Pairwise fun p q=>kl p.1 q.1
def oy(l:List Pr)(k:ByteArray):Nat:=(l.takeWhile fun p=>decide (kl p.1 k)).length
def cp(l:List Pr)(k:ByteArray):Bool:=l.any fun p=>decide (p.1=k)
theorem QA{l:List Pr}{k:ByteArray}{i:Nat}(hi:i≤l.length)(h1:∀j(h:j<l.length),j<i→kl l[j].1 k)(h2:∀(h:i<l.length),¬kl l[i].1 k):oy l k=i:=by
 unfold oy;induction l generalizing i with
 |nil=>simp at hi;simp[hi]
 |cons p l ih=>
  rw[List.takeWhile_cons];cases i with
  |zero=>
   have:=h2 (by simp);simp only[fi]at this;rw[if_neg (by simpa using this)];rfl
  |succ i=>
   have:=h1 0 (by simp) (by omega);simp only[fi]at this;rw[if_pos (by simpa using this),List.length_cons];congr 1
   refine ih (by simpa using hi) (fun j hj hji=>?_)fun h=>?_
   ·have:=h1 (j+1) (by simpa using hj) (by omega)
    simpa using this
   ·have:=h2 (by simpa using h)
    simpa using this
theorem QB(l:List Pr)(k:ByteArray):oy l k≤l.length:=by
 unfold oy;exact(List.takeWhile_prefix _).length_le
theorem IU{W:Nat→Prop}{h:af}{s:SliceV}{l:List Pr}(hs:Sl ee 2 W h s l)(hr:bU l)(hn:l.length≤1000000000)(k:ByteArray){K:Int×Bool→af→Prop}
  (hk:∀h',Upd No h h'→K((oy l k:Int),cp l k) h'):HC PG qJ [.slice s.a s.len s.cap,.string k] [.c (.int .i64),.c .bool] K h:=by
 refine Lo s k ?_;unfold Dq;refine jd s k _ ?_;unfold eS aj bP;have hlen:=hs.len;have cmp:∀{p:Pr} {h:af} {K:Int→af→Prop},(∀h',Upd No h h'→K (Gk p.1 k) h')→HV PG (.func (.func pr) #[] #[]) [.agg #[.string p.1,.string p.2],.string k] [.c (.int .i64)] K h:=fun hk=>HV.mk' (Kv hk)
 refine LoopP.ghost (fun(g:Nat×Nat) (t:Int×Int) h'=>t.1=(g.1:Int)∧t.2=(g.2:Int)∧g.1≤g.2∧g.2≤l.length∧Upd No h h'∧(∀j (hj:j<l.length),j<g.1→kl l[j].1 k)∧(∀j (hj:j<l.length),g.2≤j→¬kl l[j].1 k)) (fun g=>g.2-g.1) (0,l.length)
  ⟨rfl,by simp only;omega,by simp,by simp,Upd.refl _ _,fun j hj h=>by omega,fun j hj h=>by simp only at h;omega⟩ ?_
 rintro I ⟨i,j⟩ ⟨ti,tj⟩ h' ⟨e1,e2,hij,hjl,hu,hlo,hhi⟩ hI;simp only at e1 e2 hij hjl hlo hhi;subst e1 e2;have hs':=hs.upd hu fun _ h=>h.elim
 have mono:∀a b (ha:a<l.length) (hb:b<l.length),a<b→kl l[a].1 l[b].1:=fun a b ha hb hab=>List.pairwise_iff_getElem.1 hr a b ha hb hab
 refine ay (fun hlt=>?_)fun hge=>?_
 ·have hlt:i<j:=by have:(i:Int)<(j:Int):=hlt;omega
  have em:ac .i64 (dG (ac .u64 (ac .i64 ((i:Int)+(j:Int)))) (2^(min (1:Int).toNat (ak .u64))))=(((i+j)/2:Nat):Int):=by
   have e3:(2^(min (1:Int).toNat (ak .u64)):Int)=2:=rfl;rw[e3,cR (x:=(i:Int)+(j:Int)) (by omega),Go.IntWalk.u64_in _ (by omega),Int.fdiv_eq_ediv_of_nonneg _ (by omega),cR (by omega)];omega
  refine⟨by decide,?_⟩;simp only[Bd];rw[em];generalize hm:(i+j)/2=m;have hml:m<l.length:=by omega
  obtain⟨a,ha,_,hv⟩:=hs'.at (ai hml);refine⟨by omega,a,ha,l[m].1,hv 0 _ rfl,l[m].2,hv 1 _ rfl,cmp fun h2 hu2=>?_⟩
  refine ay (fun hneg=>?_)fun hpos=>?_
  ·have hkl:kl l[m].1 k:=by
    unfold Gk at hneg;by_cases hkl:kl l[m].1 k
    ·exact hkl
    ·rw[if_neg hkl]at hneg;split at hneg<;>omega
   refine hI (m+1,j) _ _ ⟨by simp only;rw[cR (by omega)];omega,rfl,by simp only;omega,hjl,hu.tr hu2,fun q hq hqm=>?_,hhi⟩ (by simp only;omega)
   simp only at hqm;rcases cg q m with h|h
   ·exact dV (mono q m hq hml h) hkl
   ·have:q=m:=by omega
    subst this;exact hkl
  ·have hnk:¬kl l[m].1 k:=fun hkl=>hpos (by unfold Gk;rw[if_pos hkl];decide)
   refine hI (i,m) _ _ ⟨rfl,rfl,by simp only;omega,by simp only;omega,hu.tr hu2,hlo,fun q hq hqm hqk=>?_⟩ (by simp only;omega)
   simp only at hqm;rcases cg m q with h|h
   ·exact hnk (dV (mono m q hml hq h) hqk)
   ·have:q=m:=by omega
    subst this;exact hnk hqk
 ·have hij:i=j:=by have:¬(i:Int)<(j:Int):=hge;omega
  subst hij;have hp:oy l k=i:=QA hjl hlo fun hi=>hhi i hi (au _)
  rw[hp]at hk;refine ay (fun hlt=>?_)fun hnl=>?_
  ·have hil:i<l.length:=by have:(i:Int)<(s.len:Int):=hlt;omega
   obtain⟨a,ha,_,hv⟩:=hs'.at (ai hil);refine⟨by simp only;omega,a,ha,l[i].1,hv 0 _ rfl,l[i].2,hv 1 _ rfl,cmp fun h2 hu2=>?_⟩
   have hnk:=hhi i hil (au _);have et:(Gk l[i].1 k==(0:Int))=cp l k:=by
    unfold Gk cp;rw[if_neg hnk,Bool.eq_iff_iff,List.any_eq_true];constructor
    ·intro h
     split at h
     ·rename_i e;exact⟨l[i],List.getElem_mem hil,decide_eq_true e⟩
     ·simp at h
    ·rintro⟨p,hp,e⟩
     have e:=of_decide_eq_true e;obtain⟨q,hq,rfl⟩:=List.mem_iff_getElem.1 hp;have:q=i:=by
      rcases Nat.lt_trichotomy q i with h|h|h
      ·exact absurd (e▸hlo q hq h) (bI _)
      ·exact h
      ·exact absurd (e▸mono i q hil hq h) hnk
     subst this;rw[if_pos e];rfl
   rw[et];exact hk _ (hu.tr hu2)
  ·have hil:i=l.length:=by have:¬(i:Int)<(s.len:Int):=hnl;omega
   have et:cp l k=false:=by
    unfold cp;rw[List.any_eq_false];intro p hp e;have e:=of_decide_eq_true e;obtain⟨q,hq,rfl⟩:=List.mem_iff_getElem.1 hp;exact absurd (e▸hlo q hq (by omega)) (bI _)
   rw[et]at hk;exact hk _ hu
end Go.Proofs
namespace Go.Proofs
inductive Fo where
 |nil:Fo
 |cons (lab:List UInt8) (val:Option ByteArray) (kids rest:Fo):Fo
abbrev Bn:=List UInt8×Option ByteArray×Fo
def Fo.toL:Fo→List Bn
 | .nil=> []
 | .cons lab w kids rest=>(lab,w,kids)::rest.toL
theorem Fo.toL_cons(lab:List UInt8)(w:Option ByteArray)(kids rest:Fo):(Fo.cons lab w kids rest).toL=(lab,w,kids)::rest.toL:=rfl
def Fo.ofL:List Bn→Fo
 | []=>.nil
 |(lab,w,kids)::l=>.cons lab w kids (Fo.ofL l)
theorem Fo.to_of:∀l:List Bn,(Fo.ofL l).toL=l
 | []=>rfl
 |(_,_,_)::l=>by show _::(Fo.ofL l).toL=_;rw[Fo.to_of l]
theorem Fo.of_to:∀F:Fo,Fo.ofL F.toL=F
 | .nil=>rfl
 | .cons lab w kids rest=>by show Fo.cons lab w kids (Fo.ofL rest.toL)=_;rw[Fo.of_to rest]
def tC:Fo→List UInt8→ByteArray→Prop
 | .nil,_,_=>False
 | .cons lab w kids rest,k,v=>(∃r,k=lab++r∧((r= []∧w=some v)∨tC kids r v))∨tC rest k v
def vf(w:Option ByteArray)(F:Fo)(k:List UInt8)(v:ByteArray):Prop:=(k= []∧w=some v)∨tC F k v
def vg(n:Bn)(k:List UInt8)(v:ByteArray):Prop:=∃r,k=n.1++r∧vf n.2.1 n.2.2 r v
theorem iJ:∀{F:Fo} {k:List UInt8} {v:ByteArray},tC F k v↔∃n∈F.toL,vg n k v
 | .nil,_,_=>by simp[tC,Fo.toL]
 | .cons lab w kids rest,k,v=>by
  rw[Fo.toL_cons];unfold tC;rw[iJ (F:=rest)];constructor
  ·rintro(h|⟨n,hn,h⟩)
   ·exact⟨_,ax ..,h⟩
   ·exact⟨n,aF _ hn,h⟩
  ·rintro⟨n,hn,h⟩
   rcases aB.1 hn with rfl|hn
   ·exact.inl h
   ·exact.inr ⟨n,hn,h⟩
def hd(k:List UInt8):Nat:=(k.headD 0).toNat
theorem pk{a b:List UInt8}(h:a≠[]):hd (a++b)=hd a:=by
 cases a with
 |nil=>exact absurd rfl h
 |cons x a=>rfl
theorem SW(a:List UInt8):hd a<256:=UInt8.toNat_lt _
def ie:Fo→Prop
 | .nil=>True
 | .cons lab w kids rest=>lab≠[]∧(w.isSome∨2≤kids.toL.length)∧ie kids∧(∀n∈rest.toL,hd lab<hd n.1)∧ie rest
def Jw(n:Bn):Prop:=n.1≠[]∧(n.2.1.isSome∨2≤n.2.2.toL.length)∧ie n.2.2
theorem eE:∀{F:Fo},ie F↔F.toL.Pairwise (fun m n=>hd m.1<hd n.1)∧∀n∈F.toL,Jw n
 | .nil=>by simp[ie,Fo.toL]
 | .cons lab w kids rest=>by
  rw[Fo.toL_cons,az];show(lab≠[]∧(w.isSome∨2≤kids.toL.length)∧ie kids∧(∀n∈rest.toL,hd lab<hd n.1)∧ie rest)↔_
  rw[eE (F:=rest)];constructor
  ·rintro⟨h1,h2,h3,h4,h5,h6⟩
   refine⟨⟨h4,h5⟩,fun n hn=>?_⟩
   rcases aB.1 hn with rfl|hn
   ·exact⟨h1,h2,h3⟩
   ·exact h6 n hn
  ·rintro⟨⟨h4,h5⟩,h6⟩
   have:=h6 _ (ax ..);exact⟨this.1,this.2.1,this.2.2,h4,h5,fun n hn=>h6 n (aF _ hn)⟩
theorem rX:∀{F:Fo},ie F→∀n∈F.toL,∃r v,vf n.2.1 n.2.2 r v
 | .nil,_,n,hn=>by simp[Fo.toL]at hn
 | .cons lab w kids rest,h,n,hn=>by
  rcases aB.1 hn with rfl|hn
  ·rcases h.2.1 with hw|hk
   ·obtain⟨v,hv⟩:=hJ.1 hw
    exact⟨[],v,.inl ⟨rfl,hv⟩⟩
   ·have ih:=rX h.2.2.1
    have⟨m,hm⟩:∃m,m∈kids.toL:=by
     cases hl:kids.toL with
     |nil=>rw[hl]at hk;simp at hk
     |cons m l=>exact⟨m,ax ..⟩
    obtain⟨r,v,hr⟩:=ih m hm;exact⟨m.1++r,v,.inr (iJ.2 ⟨m,hm,r,rfl,hr⟩)⟩
  ·exact rX h.2.2.2.2 n hn
theorem wN{F:Fo}(h:ie F){k:List UInt8}{v:ByteArray}(hi:tC F k v):k≠[]:=by
 obtain⟨n,hn,r,rfl,_⟩:=iJ.1 hi;have:=((eE.1 h).2 n hn).1;intro e;exact this (iS.1 e).1
theorem yM{F:Fo}(h:ie F){k:List UInt8}{v:ByteArray}(hi:tC F k v):∃n∈F.toL,hd n.1=hd k∧vg n k v:=by
 obtain⟨n,hn,r,e,hr⟩:=iJ.1 hi;exact⟨n,hn,by rw[e,pk ((eE.1 h).2 n hn).1],r,e,hr⟩
theorem Au{F:Fo}(h:ie F){m n:Bn}(hm:m∈F.toL)(hn:n∈F.toL)(e:hd m.1=hd n.1):m=n:=by
 have hp:=(eE.1 h).1;revert hm hn;generalize F.toL=l at*;clear h;induction l with
 |nil=>intro hm;simp at hm
 |cons a l ih=>
  have hp:=az.1 hp;intro hm hn;rcases aB.1 hm with e1|hm1
  ·rcases aB.1 hn with e2|hn1
   ·rw[e1,e2]
   ·have:=hp.1 n hn1;rw[←e1]at this;omega
  ·rcases aB.1 hn with e2|hn1
   ·have:=hp.1 m hm1;rw[←e2]at this;omega
   ·exact ih hp.2 hm1 hn1
def Br(P:List UInt8→ByteArray→Prop):Prop:=(∃v,P [] v)∨∃j k u v,P j u∧P k v∧j≠[]∧k≠[]∧hd j≠hd k
theorem M6{w:Option ByteArray}{F:Fo}(h:ie F):(w.isSome∨2≤F.toL.length)↔Br (vf w F):=by
 constructor
 ·rintro(hw|hl)
  ·obtain⟨v,hv⟩:=hJ.1 hw
   exact.inl ⟨v,.inl ⟨rfl,hv⟩⟩
  ·right
   have hs:=rX h;have hc:=eE.1 h;match hL:F.toL,hl with
   |a::b::l,_=>
    have ha:a∈F.toL:=by rw[hL];simp
    have hb:b∈F.toL:=by rw[hL];simp
    obtain⟨r,v,hr⟩:=hs a ha;obtain⟨s,u,hs⟩:=hs b hb;have h1:=(hc.2 a ha).1;have h2:=(hc.2 b hb).1;have:=hc.1;rw[hL]at this;have h3:=(az.1 this).1 b (ax ..);refine⟨a.1++r,b.1++s,v,u,.inr (iJ.2 ⟨a,ha,r,rfl,hr⟩),.inr (iJ.2 ⟨b,hb,s,rfl,hs⟩),?_,?_,?_⟩
    ·intro e;exact h1 (iS.1 e).1
    ·intro e;exact h2 (iS.1 e).1
    ·rw[pk h1,pk h2];omega
 ·rintro(⟨v,hv⟩|⟨j,k,u,v,hj,hk,nj,nk,hne⟩)
  ·rcases hv with⟨_,hv⟩|hv
   ·left;rw[hv];rfl
   ·exact absurd rfl (wN h hv)
  ·right
   rcases hj with⟨e,_⟩|hj
   ·exact absurd e nj
   rcases hk with⟨e,_⟩|hk
   ·exact absurd e nk
   obtain⟨m,hm,em,_⟩:=yM h hj;obtain⟨n,hn,en,_⟩:=yM h hk;match hL:F.toL with
   | []=>rw[hL]at hm;simp at hm
   | [a]=>
    rw[hL]at hm hn;rw[aC.1 hm]at em;rw[aC.1 hn]at en;omega
   |a::b::l=>simp
end Go.Proofs
