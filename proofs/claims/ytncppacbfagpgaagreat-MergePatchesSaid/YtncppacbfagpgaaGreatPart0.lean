/- A part of the proof that the named laws of this program answer true, whatever the input. -/
import Derived.Test.YtncppacbfagpgaaGreatTreeF0
import Derived.Test.YtncppacbfagpgaaGreatTreeF1
import Derived.Test.YtncppacbfagpgaaGreatTreeF2
import Derived.Test.YtncppacbfagpgaaGreatLaw0
import Derived.Test.YtncppacbfagpgaaGreatLift3
import Derived.Lib.Overlaps
import Derived.Sort.Walk0
open BitVec renaming ofInt→ar
open ByteArray renaming size_extract→qz
open Int renaming fdiv→dT,toNat_natCast→aX
open List renaming flatMap_cons→aI,take_length→cS,length_take→aQ,length_drop→aU,flatMap_append→bO,drop_zero→cP,append_assoc→al,take_append_of_le_length→fQ,take_of_length_le→bm,length_append→ac,drop_left→ga,take_left→f8,size_toArray→dz,drop_eq_getElem_cons→jN,length_eq_zero_iff→aw,drop_left'→cL,take_left'→dd,drop_drop→dP,drop_append_of_le_length→fR,getElem_cons_zero→fy,getElem?_eq_getElem→ai,mem_cons_self→ao,mem_cons_of_mem→aC,mem_cons→az,pairwise_cons→aG,append_eq_nil_iff→jj,mem_singleton→aB
open Nat renaming zero_add→aP,sub_self→gb,le_refl→aq,lt_or_ge→ct,min_eq_left→bF,sub_zero→eH,min→dZ,add_one_mul→hJ,one_mul→rV,le_mul_of_pos_left→qt,min_eq_right→gt,zero_mul→wY
open Option renaming isSome_iff_exists→iG
namespace Go.Proofs
open Go.Lift
theorem L4(n:Int):0≤IntKind.wrap .u64 n∧IntKind.wrap .u64 n<18446744073709551616:=by rw[IntKind.wrap_u64];omega
theorem d8{x:Int}(h: -4611686018427387904≤x∧x≤4611686018427387904):IntKind.wrap .i64 x=x:=Go.IntWalk.i64_in _ (by omega)
theorem gR{i n:Nat}(h:i<n)(hn:n≤4611686018427387904):IntKind.wrap .i64 ((i:Int)+1)=((i+1:Nat):Int):=by rw[d8 (by omega)];omega
theorem yb{h:ad}{b i:Nat}{c:Array Value}{t:TypeId}{v:Value}{k:ad→Prop}(hb:h[b]? =some (.cells c t (0,0)))
  (hk:∀h',h'[b]? =some (.cells (c.setIfInBounds i v) t (0,0))→Upd (· =b) h h'→k h'):At (hset h ⟨b,i,none⟩ v) k:=by
 refine hk _ ?_ (Upd.hset _ _ rfl);rw[vt hb,jg hb]
def Sa(a b:Int):Int:=IntKind.wrap .u64 (ar (IntKind.bits .u64) a&&&ar (IntKind.bits .u64) b).toNat
def gX(a b:Int):Int:=IntKind.wrap .u64 (ar (IntKind.bits .u64) a^^^ar (IntKind.bits .u64) b).toNat
def Ra(a b:Int):Int:=IntKind.wrap .u64 (ar (IntKind.bits .u64) a|||ar (IntKind.bits .u64) b).toNat
def Mp(x n:Int):Int:=
 Ra (IntKind.wrap .u64 (x*2^(min (Sa (IntKind.wrap .u64 n) 63).toNat (IntKind.bits .u64)))) (dT x (2^(min (IntKind.wrap .u64 (64-Sa (IntKind.wrap .u64 n) 63)).toNat (IntKind.bits .u64))))
theorem Ca{x n:Int}{h:ad}{K:Int→ad→Prop}(hk:K (Mp x n) h):HC PG du [.int .u64 x,.int .i64 n] [.c (.int .u64)] K h:=by
 refine vg x n ?_;unfold oM;exact⟨(L4 _).1,(L4 _).1,hk⟩
abbrev Q4:=Int×Int×Int×Int
def q4(s:Q4):Array Value:= #[.int .u64 s.1,.int .u64 s.2.1,.int .u64 s.2.2.1,.int .u64 s.2.2.2]
def TA(a b:Int):Int:=IntKind.wrap .u64 (a+b)
def Sn(s:Q4):Q4:=(TA s.1 s.2.1,s.2)
def SR(s:Q4):Q4:=(s.1,gX (Mp s.2.1 13) s.1,s.2.2)
def TL(s:Q4):Q4:=(Mp s.1 32,s.2)
def Uh(s:Q4):Q4:=(s.1,s.2.1,TA s.2.2.1 s.2.2.2,s.2.2.2)
def UR(s:Q4):Q4:=(s.1,s.2.1,s.2.2.1,gX (Mp s.2.2.2 16) s.2.2.1)
def Va(s:Q4):Q4:=(TA s.1 s.2.2.2,s.2)
def VE(s:Q4):Q4:=(s.1,s.2.1,s.2.2.1,gX (Mp s.2.2.2 21) s.1)
def VT(s:Q4):Q4:=(s.1,s.2.1,TA s.2.2.1 s.2.1,s.2.2.2)
def s09(s:Q4):Q4:=(s.1,gX (Mp s.2.1 17) s.2.2.1,s.2.2)
def UQ(s:Q4):Q4:=(s.1,s.2.1,Mp s.2.2.1 32,s.2.2.2)
def Mo(s:Q4):Q4:=UQ (s09 (VT (VE (Va (UR (Uh (TL (SR (Sn s)))))))))
def pT:Nat→Q4→Q4
 |0,s=>s
 |n+1,s=>pT n (Mo s)
theorem qO{h:ad}{b i:Nat}{t:TypeId}{s s':Q4}{v:Value}{k:ad→Prop}(hb:h[b]? =some (.cells (q4 s) t (0,0))) (e:(q4 s).setIfInBounds i v=q4 s')
  (hk:∀h',h'[b]? =some (.cells (q4 s') t (0,0))→Upd (· =b) h h'→k h'):At (hset h ⟨b,i,none⟩ v) k:=
 yb hb fun h' hb' hu=>hk h' (e▸hb') hu
theorem Hc{n:Nat}(hn:n≤100){h:ad}{b:Nat}{t:TypeId}{s:Q4}(hb:h[b]? =some (.cells (q4 s) t (0,0))) {K:Unit→ad→Prop}
  (hk:∀h',h'[b]? =some (.cells (q4 (pT n s)) t (0,0))→Upd (· =b) h h'→K () h'):HC PG jz [.pointer (some ⟨b,0,none⟩),.int .i64 n] [] K h:=by
 refine z6 _ _ ?_;unfold tN ay cj dU sS gC;refine LoopP.ghost (fun(g:Nat×Q4) (t':Int) h'=>t'=(g.1:Int)∧g.1≤n∧h'[b]? =some (.cells (q4 g.2) t (0,0))∧Upd (· =b) h h'∧pT (n-g.1) g.2=pT n s) (fun g=>n-g.1) (0,s) ⟨rfl,Nat.zero_le _,hb,Upd.refl _ _,rfl⟩ ?_
 rintro I ⟨i,s1⟩ t' h' ⟨ht,hi,hb1,hu,hr⟩ hI;simp only at ht hi hb1 hr;subst ht;refine aA (fun hlt=>?_) fun hge=>?_
 ·have hlt:i<n:=by omega
  have c:∀{h:ad} {s:Q4} {i:Nat},h[b]? =some (.cells (q4 s) t (0,0))→aS h ⟨b,0+i,none⟩=(q4 s)[i]?:=fun hb=>by rw[aP];exact bh hb
  have w:∀{h:ad} {s:Q4} {i:Nat},h[b]? =some (.cells (q4 s) t (0,0))→i<4→Wr h ⟨b,0+i,none⟩:=fun hb hi=>by rw[aP];exact iI hb hi
  simp only[show((0:Int)).toNat*1=0 from rfl,show((1:Int)).toNat*1=1 from rfl,show((2:Int)).toNat*1=2 from rfl,show((3:Int)).toNat*1=3 from rfl]
  refine⟨_,rfl,by decide,_,c (i:=0) hb1,_,rfl,by decide,_,c (i:=1) hb1,_,rfl,by decide,w (i:=0) hb1 (by decide),qO (s':=Sn s1) hb1 rfl fun h2 hb2 hu2=>?_⟩
  refine⟨_,rfl,by decide,_,c (i:=1) hb2,_,rfl,by decide,_,c (i:=0) hb2,_,rfl,Ca ⟨c (i:=0) hb2,by decide,w (i:=1) hb2 (by decide),qO (s':=SR (Sn s1)) hb2 rfl fun h3 hb3 hu3=>?_⟩⟩
  refine⟨_,rfl,by decide,_,c (i:=0) hb3,_,rfl,Ca ⟨by decide,w (i:=0) hb3 (by decide),qO (s':=TL (SR (Sn s1))) hb3 rfl fun h4 hb4 hu4=>?_⟩⟩
  refine⟨_,rfl,by decide,_,c (i:=2) hb4,_,rfl,by decide,_,c (i:=3) hb4,_,rfl,by decide,w (i:=2) hb4 (by decide),qO (s':=Uh (TL (SR (Sn s1)))) hb4 rfl fun h5 hb5 hu5=>?_⟩
  refine⟨_,rfl,by decide,_,c (i:=3) hb5,_,rfl,by decide,_,c (i:=2) hb5,_,rfl,Ca ⟨c (i:=2) hb5,by decide,w (i:=3) hb5 (by decide),qO (s':=UR (Uh (TL (SR (Sn s1))))) hb5 rfl fun h6 hb6 hu6=>?_⟩⟩
  refine⟨_,rfl,by decide,_,c (i:=0) hb6,_,rfl,by decide,_,c (i:=3) hb6,_,rfl,by decide,w (i:=0) hb6 (by decide),qO (s':=Va (UR (Uh (TL (SR (Sn s1)))))) hb6 rfl fun h7 hb7 hu7=>?_⟩
  refine⟨_,rfl,by decide,_,c (i:=3) hb7,_,rfl,by decide,_,c (i:=0) hb7,_,rfl,Ca ⟨c (i:=0) hb7,by decide,w (i:=3) hb7 (by decide),qO (s':=VE (Va (UR (Uh (TL (SR (Sn s1))))))) hb7 rfl fun h8 hb8 hu8=>?_⟩⟩
  refine⟨_,rfl,by decide,_,c (i:=2) hb8,_,rfl,by decide,_,c (i:=1) hb8,_,rfl,by decide,w (i:=2) hb8 (by decide),qO (s':=VT (VE (Va (UR (Uh (TL (SR (Sn s1)))))))) hb8 rfl fun h9 hb9 hu9=>?_⟩
  refine⟨_,rfl,by decide,_,c (i:=1) hb9,_,rfl,by decide,_,c (i:=2) hb9,_,rfl,Ca ⟨c (i:=2) hb9,by decide,w (i:=1) hb9 (by decide),qO (s':=s09 (VT (VE (Va (UR (Uh (TL (SR (Sn s1))))))))) hb9 rfl fun h10 hb10 hu10=>?_⟩⟩
  refine⟨_,rfl,by decide,_,c (i:=2) hb10,_,rfl,Ca ⟨by decide,w (i:=2) hb10 (by decide),qO (s':=Mo s1) hb10 rfl fun h11 hb11 hu11=>?_⟩⟩
  rw[gR hlt (by omega)];refine hI (i+1,Mo s1) _ _ ⟨rfl,hlt,hb11,hu.tr (hu2.tr (hu3.tr (hu4.tr (hu5.tr (hu6.tr (hu7.tr (hu8.tr (hu9.tr (hu10.tr hu11))))))))),?_⟩ (by simp only;omega);simp only;rw[←hr,show n-i=(n-(i+1))+1 by omega];rfl
 ·obtain rfl:i=n:=by omega
  rw[gb]at hr;have hr:s1=pT i s:=hr;rw[←hr]at hk;exact hk _ hb1 hu
end Go.Proofs
namespace Go.Proofs
open Go.Lift
def Tv(s:ByteArray)(i:Nat):Int:=match s[i]? with|some b=>(b.toNat:Int)|none=>0
def VD(b:Int)(n:Int):Int:=IntKind.wrap .u64 ((IntKind.wrap .u64 b)*2^(min n.toNat (IntKind.bits .u64)))
def wj(s:ByteArray):Nat→Int→Int
 |0,t=>t
 |k+1,t=>wj s k (Ra t (if k=0 then IntKind.wrap .u64 (Tv s 0)else VD (Tv s k) ((8*k:Nat):Int)))
def CX(s:ByteArray):Int:=wj s s.size 0
theorem uq{s:ByteArray}{i:Nat}(h:i<s.size):∃b,s[i]? =some b∧Tv s i=(b.toNat:Int):=⟨s[i],getElem?_pos s i h,by simp[Tv,getElem?_pos s i h]⟩
theorem N0{s:ByteArray}(hs:s.size≤8){h:ad}{K:Int→ad→Prop}(hk:K (CX s) h):HC PG wI [.string s] [.c (.int .u64)] K h:=by
 refine NC s ?_;unfold F4;refine Join.intro (fun t h'=>h'=h∧1≤s.size∧wj s 1 t=wj s s.size 0) (fun R1 hR1=>?_) ?_
 ·refine Join.intro (fun t h'=>h'=h∧2≤s.size∧wj s 2 t=wj s s.size 0) (fun R2 hR2=>?_) ?_
  ·refine Join.intro (fun t h'=>h'=h∧3≤s.size∧wj s 3 t=wj s s.size 0) (fun R3 hR3=>?_) ?_
   ·refine Join.intro (fun t h'=>h'=h∧4≤s.size∧wj s 4 t=wj s s.size 0) (fun R4 hR4=>?_) ?_
    ·refine Join.intro (fun t h'=>h'=h∧5≤s.size∧wj s 5 t=wj s s.size 0) (fun R5 hR5=>?_) ?_
     ·refine Join.intro (fun t h'=>h'=h∧6≤s.size∧wj s 6 t=wj s s.size 0) (fun R6 hR6=>?_) ?_
      ·refine Join.intro (fun t h'=>h'=h∧7≤s.size∧wj s 7 t=wj s s.size 0) (fun R7 hR7=>?_) ?_
       ·refine CondP.intro (fun e=>?_) fun e8=>?_
        ·have e:s.size=8:=by have:=of_decide_eq_true (by simpa using e:decide ((s.size:Int)=8)=true);omega
         obtain⟨b,hb,hv⟩:=uq (s:=s) (i:=7) (by omega);refine⟨b,by decide,hb,by decide,hR7 _ _ ⟨rfl,by omega,?_⟩⟩
         rw[e,←hv];rfl
        refine CondP.intro (fun e=>?_) fun e7=>?_
        ·have e:s.size=7:=by have:=of_decide_eq_true (by simpa using e:decide ((s.size:Int)=7)=true);omega
         exact hR7 _ _ ⟨rfl,by omega,by rw[e]⟩
        refine CondP.intro (fun e=>?_) fun e6=>?_
        ·have e:s.size=6:=by have:=of_decide_eq_true (by simpa using e:decide ((s.size:Int)=6)=true);omega
         exact hR6 _ _ ⟨rfl,by omega,by rw[e]⟩
        refine CondP.intro (fun e=>?_) fun e5=>?_
        ·have e:s.size=5:=by have:=of_decide_eq_true (by simpa using e:decide ((s.size:Int)=5)=true);omega
         exact hR5 _ _ ⟨rfl,by omega,by rw[e]⟩
        refine CondP.intro (fun e=>?_) fun e4=>?_
        ·have e:s.size=4:=by have:=of_decide_eq_true (by simpa using e:decide ((s.size:Int)=4)=true);omega
         exact hR4 _ _ ⟨rfl,by omega,by rw[e]⟩
        refine CondP.intro (fun e=>?_) fun e3=>?_
        ·have e:s.size=3:=by have:=of_decide_eq_true (by simpa using e:decide ((s.size:Int)=3)=true);omega
         exact hR3 _ _ ⟨rfl,by omega,by rw[e]⟩
        refine CondP.intro (fun e=>?_) fun e2=>?_
        ·have e:s.size=2:=by have:=of_decide_eq_true (by simpa using e:decide ((s.size:Int)=2)=true);omega
         exact hR2 _ _ ⟨rfl,by omega,by rw[e]⟩
        refine CondP.intro (fun e=>?_) fun e1=>?_
        ·have e:s.size=1:=by have:=of_decide_eq_true (by simpa using e:decide ((s.size:Int)=1)=true);omega
         exact hR1 _ _ ⟨rfl,by omega,by rw[e]⟩
        have e:s.size=0:=by
         have q1:¬(s.size:Int)=1:=by simpa using e1
         have q2:¬(s.size:Int)=2:=by simpa using e2
         have q3:¬(s.size:Int)=3:=by simpa using e3
         have q4:¬(s.size:Int)=4:=by simpa using e4
         have q5:¬(s.size:Int)=5:=by simpa using e5
         have q6:¬(s.size:Int)=6:=by simpa using e6
         have q7:¬(s.size:Int)=7:=by simpa using e7
         have q8:¬(s.size:Int)=8:=by simpa using e8
         omega
        unfold CX at hk;rw[e]at hk;exact hk
       ·rintro t _ ⟨rfl,hsz,ht⟩
        obtain⟨b,hb,hv⟩:=uq (s:=s) (i:=6) (by omega);refine⟨b,by decide,hb,by decide,hR6 _ _ ⟨rfl,by omega,?_⟩⟩
        rw[←ht,←hv];rfl
      ·rintro t _ ⟨rfl,hsz,ht⟩
       obtain⟨b,hb,hv⟩:=uq (s:=s) (i:=5) (by omega);refine⟨b,by decide,hb,by decide,hR5 _ _ ⟨rfl,by omega,?_⟩⟩
       rw[←ht,←hv];rfl
     ·rintro t _ ⟨rfl,hsz,ht⟩
      obtain⟨b,hb,hv⟩:=uq (s:=s) (i:=4) (by omega);refine⟨b,by decide,hb,by decide,hR4 _ _ ⟨rfl,by omega,?_⟩⟩
      rw[←ht,←hv];rfl
    ·rintro t _ ⟨rfl,hsz,ht⟩
     obtain⟨b,hb,hv⟩:=uq (s:=s) (i:=3) (by omega);refine⟨b,by decide,hb,by decide,hR3 _ _ ⟨rfl,by omega,?_⟩⟩
     rw[←ht,←hv];rfl
   ·rintro t _ ⟨rfl,hsz,ht⟩
    obtain⟨b,hb,hv⟩:=uq (s:=s) (i:=2) (by omega);refine⟨b,by decide,hb,by decide,hR2 _ _ ⟨rfl,by omega,?_⟩⟩
    rw[←ht,←hv];rfl
  ·rintro t _ ⟨rfl,hsz,ht⟩
   obtain⟨b,hb,hv⟩:=uq (s:=s) (i:=1) (by omega);refine⟨b,by decide,hb,by decide,hR1 _ _ ⟨rfl,by omega,?_⟩⟩
   rw[←ht,←hv];rfl
 ·rintro t _ ⟨rfl,hsz,ht⟩
  obtain⟨b,hb,hv⟩:=uq (s:=s) (i:=0) (by omega);refine⟨b,by decide,hb,?_⟩
  unfold CX at hk;rw[←ht]at hk;rw[←hv];exact hk
end Go.Proofs
namespace Go.Proofs
open Go.Lift
def EJ(m:Int)(s:Q4):Q4:=
 let r:=pT 2 (s.1,s.2.1,s.2.2.1,gX s.2.2.2 m)
 (gX r.1 m,r.2)
theorem N8{m:Int}{h:ad}{b:Nat}{t:TypeId}{s:Q4}(hb:h[b]? =some (.cells (q4 s) t (0,0))) {K:Unit→ad→Prop}
  (hk:∀h',h'[b]? =some (.cells (q4 (EJ m s)) t (0,0))→Upd (· =b) h h'→K () h'):HC PG nz [.pointer (some ⟨b,0,none⟩),.int .u64 m] [] K h:=by
 refine CH _ _ ?_;unfold vQ ay cj dU ll;have c:∀{h:ad} {s:Q4} {i:Nat},h[b]? =some (.cells (q4 s) t (0,0))→aS h ⟨b,0+i,none⟩=(q4 s)[i]?:=fun hb=>by rw[aP];exact bh hb
 have w:∀{h:ad} {s:Q4} {i:Nat},h[b]? =some (.cells (q4 s) t (0,0))→i<4→Wr h ⟨b,0+i,none⟩:=fun hb hi=>by rw[aP];exact iI hb hi
 simp only[show((0:Int)).toNat*1=0 from rfl,show((3:Int)).toNat*1=3 from rfl]
 refine⟨_,rfl,by decide,_,c (i:=3) hb,_,rfl,by decide,w (i:=3) hb (by decide),qO (s':=(s.1,s.2.1,s.2.2.1,gX s.2.2.2 m)) hb rfl fun h2 hb2 hu2=>?_⟩
 refine Hc (n:=2) (by omega) hb2 fun h3 hb3 hu3=>?_
 have et:EJ m s=(gX (pT 2 (s.1,s.2.1,s.2.2.1,gX s.2.2.2 m)).1 m,(pT 2 (s.1,s.2.1,s.2.2.1,gX s.2.2.2 m)).2):=by unfold EJ;rfl
 rw[et]at hk;generalize pT 2 (s.1,s.2.1,s.2.2.1,gX s.2.2.2 m)=r at hb3 hk;refine⟨_,rfl,by decide,_,c (i:=0) hb3,_,rfl,by decide,w (i:=0) hb3 (by decide),qO (s':=(gX r.1 m,r.2)) hb3 rfl fun h4 hb4 hu4=>?_⟩
 exact hk _ hb4 (hu2.tr (hu3.tr hu4))
def EP:Nat→ByteArray→Q4→ByteArray×Q4
 |0,s,q=>(s,q)
 |n+1,s,q=>if 8≤s.size then EP n (s.extract 8 s.size) (EJ (CX (s.extract 0 8)) q)else(s,q)
def Vq(r:Q4):Int:=gX (gX (gX r.1 r.2.1) r.2.2.1) r.2.2.2
def Vp(q:Q4):Int:=Vq (pT 4 (q.1,q.2.1,gX q.2.2.1 255,q.2.2.2))
def VQ(n:Nat)(g:ByteArray×Q4):Int:=Vp (EJ (Ra (CX g.1) (VD (n:Int) 56)) g.2)
def SL(k0 k1:Int)(s:ByteArray):Int:=
 VQ s.size (EP s.size s (gX k0 8317987319222330741,gX k1 7237128888997146477,gX k0 7816392313619706465,gX k1 8387220255154660723))
theorem Tm{h29:ad}{b:Nat}{t:TypeId}{r:Q4}(hb:h29[b]? =some (.cells (q4 r) t (0,0))) {K:Int→Prop} (hk:K (Vq r)):
  (((0:Int)≤(0:Int)∧(0:Int)<((4:Nat):Int))∧
   ∃v30:Int,aS h29 (adr ⟨b,0,none⟩ ((0:Int).toNat*1))=some (.int .u64 v30)∧
   (((0:Int)≤(1:Int)∧(1:Int)<((4:Nat):Int))∧
    ∃v31:Int,aS h29 (adr ⟨b,0,none⟩ ((1:Int).toNat*1))=some (.int .u64 v31)∧
    Bd (IntKind.wrap .u64 (ar (IntKind.bits .u64) v30^^^ar (IntKind.bits .u64) v31).toNat:Int) (fun n32=>
     (((0:Int)≤(2:Int)∧(2:Int)<((4:Nat):Int))∧
      ∃v33:Int,aS h29 (adr ⟨b,0,none⟩ ((2:Int).toNat*1))=some (.int .u64 v33)∧
      Bd (IntKind.wrap .u64 (ar (IntKind.bits .u64) n32^^^ar (IntKind.bits .u64) v33).toNat:Int) (fun n34=>
       (((0:Int)≤(3:Int)∧(3:Int)<((4:Nat):Int))∧
        ∃v35:Int,aS h29 (adr ⟨b,0,none⟩ ((3:Int).toNat*1))=some (.int .u64 v35)∧
        Bd (IntKind.wrap .u64 (ar (IntKind.bits .u64) n34^^^ar (IntKind.bits .u64) v35).toNat:Int) (fun n36=>
         K n36))))))):=by
 have c:∀{i:Nat},aS h29 ⟨b,0+i,none⟩=(q4 r)[i]?:=by intro i;rw[aP];exact bh hb
 exact⟨by decide,_,c (i:=0),by decide,_,c (i:=1),by decide,_,c (i:=2),by decide,_,c (i:=3),hk⟩
theorem Tl{h24:ad}{b:Nat}{t:TypeId}{q:Q4}(hb:h24[b]? =some (.cells (q4 q) t (0,0))) {K:Unit→ad→Prop}
  (hk:∀h',h'[b]? =some (.cells (q4 (pT 4 (q.1,q.2.1,gX q.2.2.1 255,q.2.2.2))) t (0,0))→Upd (· =b) h24 h'→K () h'):
  (((0:Int)≤(2:Int)∧(2:Int)<((4:Nat):Int))∧
   ∃v25:Int,aS h24 (adr ⟨b,0,none⟩ ((2:Int).toNat*1))=some (.int .u64 v25)∧
   Bd (IntKind.wrap .u64 (ar (IntKind.bits .u64) v25^^^ar (IntKind.bits .u64) 255).toNat:Int) (fun n26=>
    (((0:Int)≤(2:Int)∧(2:Int)<((4:Nat):Int))∧
     (Wr h24 (adr ⟨b,0,none⟩ ((2:Int).toNat*1))∧
      At (hset h24 (adr ⟨b,0,none⟩ ((2:Int).toNat*1)) (.int .u64 n26)) (fun h27=>
       HC PG jz [.pointer (some ⟨b,0,none⟩),.int .i64 4] [] K h27))))):=by
 have c:∀{i:Nat},aS h24 ⟨b,0+i,none⟩=(q4 q)[i]?:=by intro i;rw[aP];exact bh hb
 refine⟨by decide,_,c (i:=2),by decide,by rw[show((2:Int)).toNat*1=2 from rfl,ci];exact iI hb (by simp[q4]),?_⟩
 refine qO (s':=(q.1,q.2.1,gX q.2.2.1 255,q.2.2.2)) hb rfl fun h3 hb3 hu3=>?_
 exact Hc (n:=4) (by omega) hb3 fun h4 hb4 hu4=>hk h4 hb4 (hu3.tr hu4)
theorem bq{h:ad}{k:ad→Prop}(hk:k h):At h k:=hk
theorem Uc{k0 k1:Int}{s:ByteArray}{h:ad}{K:Int→ad→Prop}(hk:∀h',Upd No h h'→K (SL k0 k1 s) h'):HC PG Co [.agg #[.int .u64 k0,.int .u64 k1],.string s] [.c (.int .u64)] K h:=by
 refine P6 (k0,k1) s ?_;unfold H0 ay cj ae nv dU ll gC Vb UT UW Sw;have k1':=Upd.hnew No h [.int .u64 k0,.int .u64 k1] l8;have b1:=bZ h [.int .u64 k0,.int .u64 k1] l8;have z1:=iS h [.int .u64 k0,.int .u64 k1] l8;refine bq ?_;simp only[cJ h];generalize hnew h [.int .u64 k0,.int .u64 k1] l8=h1 at k1' b1 z1;refine⟨k0,by rw[ci,bh b1];rfl,k1,by rw[ci,bh b1];rfl,k0,by rw[ci,bh b1];rfl,k1,by rw[ci,bh b1];rfl,?_⟩
 have k2:=Upd.hnew No h1 [.int .u64 0,.int .u64 0,.int .u64 0,.int .u64 0] jS;have b2:=bZ h1 [.int .u64 0,.int .u64 0,.int .u64 0,.int .u64 0] jS;simp only[cJ h1];simp only[Bd];refine bq ?_;refine⟨.inr ⟨_,rfl,fun j hj=>by rw[ci];exact iI b2 (by simp at hj⊢;omega)⟩,?_⟩
 refine bq ?_;rw[jq _ _ 0 0 _ b2 (by simp)];have b3:=jg (o:=.cells (q4 (gX k0 8317987319222330741,gX k1 7237128888997146477,gX k0 7816392313619706465,gX k1 8387220255154660723)) jS (0,0)) b2;have k3:Upd No h _:=k1'.tr (k2.trans (M':=(· =h1.size)) (Upd.set (hnew h1 [.int .u64 0,.int .u64 0,.int .u64 0,.int .u64 0] jS) (.cells (q4 (gX k0 8317987319222330741,gX k1 7237128888997146477,gX k0 7816392313619706465,gX k1 8387220255154660723)) jS (0,0)) rfl) fun b hb=>.inr (Nat.le_of_eq hb.symm))
 refine LoopP.ghost (fun(g:Nat×Q4) (t':ByteArray) h'=>t'.size≤g.1∧h'[h1.size]? =some (.cells (q4 g.2) jS (0,0))∧Upd No h h'∧EP g.1 t' g.2=EP s.size s (gX k0 8317987319222330741,gX k1 7237128888997146477,gX k0 7816392313619706465,gX k1 8387220255154660723)) (fun g=>g.1) (s.size,_)
  ⟨aq _,b3,k3,rfl⟩ ?_
 rintro I ⟨n,q⟩ t' h' ⟨hn,hb,hu,hg⟩ hI;simp only at hn hb hg;have hsh:∀b,b=h1.size→No b∨h.size≤b:=fun b hb=>.inr (by omega)
 refine aA (fun hge=>?_) fun hlt=>?_
 ·have hge:8≤t'.size:=by omega
  cases n with
  |zero=>omega
  |succ n=>
   refine⟨by omega,N0 (by rw[qz];show min 8 _-0≤8;omega) (N8 hb fun h2 hb2 hu2=>⟨by omega,?_⟩)⟩
   have e8:((8:Int)).toNat=8:=rfl;rw[e8]at hb2⊢;refine hI (n,EJ (CX (t'.extract 0 8)) q) _ _ ⟨by simp only[qz];omega,hb2,hu.trans hu2 hsh,?_⟩ (by simp only;omega);rw[←hg];simp only[EP,if_pos hge]
 ·have hlt:t'.size<8:=by omega
  have hg:(t',q)=EP s.size s (gX k0 8317987319222330741,gX k1 7237128888997146477,gX k0 7816392313619706465,gX k1 8387220255154660723):=by
   rw[←hg];cases n with
   |zero=>rfl
   |succ n=>simp only[EP,if_neg (show ¬8≤t'.size by omega)]
  have c:∀{h:ad} {s:Q4} {i:Nat},h[h1.size]? =some (.cells (q4 s) jS (0,0))→aS h ⟨h1.size,0+i,none⟩=(q4 s)[i]?:=fun hb=>by rw[aP];exact bh hb
  have w:∀{h:ad} {s:Q4} {i:Nat},h[h1.size]? =some (.cells (q4 s) jS (0,0))→i<4→Wr h ⟨h1.size,0+i,none⟩:=fun hb hi=>by rw[aP];exact iI hb hi
  have hsv:SL k0 k1 s=Vp (EJ (Ra (CX t') (VD (s.size:Int) 56)) q):=by unfold SL;rw[←hg];rfl
  rw[hsv]at hk;refine N0 (by omega) ⟨by decide,N8 (m:=Ra (CX t') (VD (s.size:Int) 56)) hb fun h2 hb2 hu2=>?_⟩
  refine Tl hb2 fun h4 hb4 hu4=>Tm (K:=fun n=>K n h4) hb4 ?_
  exact hk h4 ((hu.trans hu2 hsh).trans hu4 hsh)
structure Hs where
 k0:Int
 k1:Int
 mask:Int
def gp(h:Hs)(s:ByteArray):Int:=Sa (SL h.k0 h.k1 s) h.mask
theorem yA{x:Hs}{s:ByteArray}{h:ad}{K:Int→ad→Prop}(hk:∀h',Upd No h h'→K (gp x s) h'):HC PG fL [.agg #[.int .u64 x.k0,.int .u64 x.k1,.int .u64 x.mask],.string s] [.c (.int .u64)] K h:=by
 refine Bg (x.k0,x.k1,x.mask) s ?_;unfold uB ae aH Dm gC U0;have k1':=Upd.hnew No h [.int .u64 x.k0,.int .u64 x.k1,.int .u64 x.mask] cC;have b1:=bZ h [.int .u64 x.k0,.int .u64 x.k1,.int .u64 x.mask] cC;simp only[At,cJ h];generalize hnew h [.int .u64 x.k0,.int .u64 x.k1,.int .u64 x.mask] cC=h1 at k1' b1;refine⟨x.k0,by rw[ci,ci,bh b1];rfl,x.k1,by rw[ci,ci,bh b1];rfl,x.mask,by rw[ci,bh b1];rfl,?_⟩
 refine Uc fun h2 hu=>⟨by rw[ci,bh (hu.get0 b1)];rfl,hk _ (k1'.tr hu)⟩
theorem K4(x:Hs)(s:ByteArray):0≤gp x s∧gp x s<18446744073709551616:=L4 _
end Go.Proofs
namespace Go.Proofs
open Go Go.Lift
abbrev eu(x:ByteArray×ByteArray):List Value:= [.string x.1,.string x.2]
theorem ge(x:ByteArray×ByteArray):(eu x).length=2∧0<2:=⟨rfl,by omega⟩
theorem ww:∀xs:List (ByteArray×ByteArray),cz (xs.flatMap eu)=true
 | []=>rfl
 |x::xs=>by rw[aI];exact lw rfl (ww xs)
theorem II{h:ad}{vb b o la ca lb cb:Nat}{cv cw:Array Value}{tv tb:TypeId}(hv:h[vb]? =some (.cells cv tv (0,0))) (hb:h[b]? =some (.cells cw tb (0,0))) (hn:vb≠b) (h0:cw.size≠0) {K:Bool→ad→Prop} (hk:K false h):
  HC PG jh [.slice (some ⟨vb,0,none⟩) la ca,.slice (some ⟨b,o,none⟩) lb cb] [.c .bool] K h:=by
 refine⟨fun w hw=>.inr ⟨.bool false,w,?_,Tame.refl w,false,rfl,hw▸hk⟩⟩
 subst hw;rw[sO];have:=Lib.run_overlaps_apart (P:=PG) w cB xw af (by kernel_rfl) (cl PG af) (rK (by kernel_rfl)) ⟨vb,0,none⟩ ⟨b,o,none⟩ la ca lb cb hn tv tb cv.size cw.size
  (by simp[World.shape?,hv]) (by simp[World.shape?,hb]) h0 (by simp[World.frozen?,hv]) (by simp[World.frozen?,hv])
 rw[show([Value.slice (some ⟨vb,0,none⟩) la ca,Value.slice (some ⟨b,o,none⟩) lb cb]:List Value).toArray= #[.slice (some ⟨vb,0,none⟩) la ca,.slice (some ⟨b,o,none⟩) lb cb]from rfl,this]
 rfl
set_option maxRecDepth 4000 in
theorem M3{M:Nat→Prop}{h:ad}{s:SliceV}{xs:List (ByteArray×ByteArray)}(hs:OwnS eu 2 af M h s xs){k:Nat}(hkl:k≤xs.length)(hn:(xs.length+1)*32≤140737488355328){x:ByteArray×ByteArray}{vb:Nat}(hv:h[vb]? =some (.cells (eu x).toArray af (0,0)))
  (hvM:¬M vb) (hM:∀b,h.size≤b→M b) {K:SliceV→ad→Prop} (hK:∀s' h',OwnS eu 2 af M h' s' (xs.take k++x::xs.drop k)→Upd M h h'→K s' h'):
  HC PG c7 [.slice s.a s.len s.cap,.int .i64 k,.slice (some ⟨vb,0,none⟩) 1 1] [.c .slice] K h:=by
 refine nL s k ⟨some ⟨vb,0,none⟩,1,1⟩ ?_;unfold iV nZ;have hlen:=hs.len;have hcap:=hs.cap;have hxr:SRow h (some ⟨vb,0,none⟩) (1*2) (eu x):=⟨rfl,.inr ⟨_,rfl,oV hv fun i v hi=>by simpa using hi⟩⟩
 refine⟨by omega,aj.2 ?_⟩;refine CondP.intro (fun e=>?_) fun e=>?_
 ·have e:k=xs.length:=by have:=of_decide_eq_true (by simpa using e:decide ((k:Int)=(s.len:Int))=true);omega
  subst e;refine⟨_,hxr,AppP.own (ys:= [x]) hs rfl (by simp) rfl rfl (by omega) (by simp;omega) (hM _ (aq _)) fun s' h' ho hu=>hK s' h' ?_ hu⟩
  rw[cS,List.drop_length];exact ho
 have hlt:k<xs.length:=by
  rcases ct k xs.length with h|h
  ·exact h
  ·have:((k:Int)==(s.len:Int))=true:=by rw[beq_iff_eq];omega
   rw[this]at e;cases e
 rcases hs.blk with h0|⟨b,rest,ha,hb,hc,hr⟩
 ·omega
 have hA:((xs.take k).flatMap eu).length=k*2:=by rw[lD ge,aQ,bF hkl]
 have hB:((xs.drop k).flatMap eu).length=(xs.length-k)*2:=by rw[lD ge,aU]
 have hbv:vb≠b:=fun e=>hvM (e▸hb)
 rw[zT (f:=eu) xs k]at hc;have hins:(xs.take k++x::xs.drop k).flatMap eu=(xs.take k).flatMap eu++(eu x++(xs.drop k).flatMap eu):=by rw[bO,aI]
 have hone:=ww (xs.drop k);have hxl:(eu x).length=2:=rfl;have hx1:cz (eu x)=true:=rfl;generalize hAe:(xs.take k).flatMap eu=A at hA hc hins;generalize hBe:(xs.drop k).flatMap eu=B at hB hc hins hone;generalize eu x=X at hxr hxl hv hins hx1;rw[ha];have w1:IntKind.wrap .i64 ((xs.length:Int)+((1:Nat):Int))=((xs.length+1:Nat):Int):=by rw[d8 (by omega)];omega
 have w2:IntKind.wrap .i64 ((k:Int)+((1:Nat):Int))=((k+1:Nat):Int):=by rw[d8 (by omega)];omega
 have w3:IntKind.wrap .i64 (((xs.length+1:Nat):Int)-(k:Int))=((xs.length+1-k:Nat):Int):=by rw[d8 (by omega)];omega
 simp only[w1,w2,w3,aX,hlen];refine aA (fun hgt=>?_) fun hle=>?_
 ·
  have hcl:s.cap=xs.length:=by omega
  refine Join.plain ⟨by omega,⟨by omega,by omega,by omega,by omega⟩,fun hin=>?_,fun hout=>?_⟩
  ·omega
  ·refine⟨A,_,?_,rfl,by omega,Go.growslice_fits hout (by omega),fun nc hnc=>?_⟩
   ·rw[sub_zero]
    exact mc hc (by rw[hA];omega) (by simp only[cP,eH];rw[al,←hA,fQ (aq _),cS])
   ·simp only[aX]at hnc⊢
    have kn:=Upd.hnew No h (A++dQ (xs.length+1-k) [.string (⟨#[]⟩:ByteArray),.string (⟨#[]⟩:ByteArray)]++dQ (nc-(k-0+(xs.length+1-k))) [.string (⟨#[]⟩:ByteArray),.string (⟨#[]⟩:ByteArray)]) af;have bn:=bZ h (A++dQ (xs.length+1-k) [.string (⟨#[]⟩:ByteArray),.string (⟨#[]⟩:ByteArray)]++dQ (nc-(k-0+(xs.length+1-k))) [.string (⟨#[]⟩:ByteArray),.string (⟨#[]⟩:ByteArray)]) af
    have hz1:(dQ (xs.length+1-k) [.string (⟨#[]⟩:ByteArray),.string (⟨#[]⟩:ByteArray)]).length=(xs.length+1-k)*2:=mL _ _;have hz2:(dQ (nc-(k-0+(xs.length+1-k))) [.string (⟨#[]⟩:ByteArray),.string (⟨#[]⟩:ByteArray)]).length=(nc-(k-0+(xs.length+1-k)))*2:=mL _ _;have hncl:k-0+(xs.length+1-k)=xs.length+1:=by omega
    rw[cJ];have hsz:h.size≠vb:=fun e=>by have:=aO hv;omega
    have hszb:h.size≠b:=fun e=>by have:=aO hc;omega
    have hbc:=kn.get0 hc;have hvc:=kn.get0 hv;generalize hnew h _ af=h9 at kn bn hbc hvc;rw[hncl]at hnc hz2⊢;have m1:dZ 1 (xs.length+1-k)=1:=bF (by omega);have m2:dZ (xs.length-k) (xs.length+1-(k+1))=xs.length-k:=bF (by omega);rw[m1];have xr9:SRow h9 (some ⟨vb,0,none⟩) (1*2) X:=mc hvc (by rw[hxl]) (by rw[cP,bm];rw[hxl];omega)
    refine⟨by omega,?_⟩;rw[ko (by omega)];refine lV xr9 hx1 bn (by simp only[ac,hA,hz1];omega) fun h11 hb11 hu11=>⟨by omega,?_⟩
    simp only[Bd];rw[ko (by omega),ko (by omega),m2];refine⟨by omega,?_⟩;have hbc11:=hu11.get hbc (fun e=>hszb e.symm)
    have br:SRow h11 (some ⟨b,0+k*2,none⟩) ((xs.length-k)*2) B:=mc hbc11 hB (by
     rw[aP,al,←hA,ga,←hB,f8])
    refine lV br hone hb11 ?_ fun h16 hb16 hu16=>?_
    ·simp only[ac,aQ,aU,hA,hz1,hxl];omega
    ·refine hK _ _ ⟨by simp;omega,ge,hnc,.inr ⟨h.size,dQ (nc-(xs.length+1)) [.string (⟨#[]⟩:ByteArray),.string (⟨#[]⟩:ByteArray)],rfl,hM _ (aq _),?_,by rw[mL];rfl⟩⟩ ((kn.wide.trans (M':=(· =h.size)) hu11 fun b hb=>.inl (hb▸hM _ (aq _))).trans (M':=(· =h.size)) hu16 fun b hb=>.inl (hb▸hM _ (aq _)))
     rw[hb16,hins];have:=IR (A:=A) (X:=X) (B:=B) (Z1:=dQ (xs.length+1-k) [.string (⟨#[]⟩:ByteArray),.string (⟨#[]⟩:ByteArray)]) (Z2:=dQ (nc-(xs.length+1)) [.string (⟨#[]⟩:ByteArray),.string (⟨#[]⟩:ByteArray)]) (r:=(xs.length-k)*2) hA hxl (by rw[hz1,←hJ];congr 1;omega);rw[hncl,←this];simp only[aP,hJ,rV]
 ·have hcl:xs.length+1≤s.cap:=by omega
  refine⟨by omega,?_⟩;simp only[Bd,eH];rw[sub_zero,ko (show s.cap≠k+1 by omega),ko (show s.cap≠k by omega)]
  refine⟨by omega,?_⟩;have hrl:2≤rest.length:=by rw[hr];exact qt _ (by omega)
  refine II hv hc hbv (by rw[dz,ac];omega) ?_;refine av.2 ⟨by omega,by omega,?_⟩
  have m1:dZ 1 (xs.length+1-k)=1:=bF (by omega);have m2:dZ (xs.length+1-k) (xs.length+1-(k+1))=xs.length-k:=by
   rw[show xs.length+1-(k+1)=xs.length-k by omega];exact gt (by omega)
  rw[m2];have br:SRow h (some ⟨b,0+k*2,none⟩) ((xs.length-k)*2) B:=mc hc hB (by
   rw[aP,al,←hA,ga,←hB,f8])
  refine lV br hone hc (by simp only[ac,hA,hB];omega) fun h1 hb1 hu1=>⟨by omega,?_⟩
  rw[m1];have xr1:SRow h1 (some ⟨vb,0,none⟩) (1*2) X:=mc (hu1.get hv hbv) (by rw[hxl]) (by rw[cP,bm];rw[hxl];omega);refine lV xr1 hx1 hb1 (by simp only[ac,aQ,aU,hA,hB];omega) fun h2 hb2 hu2=>?_
  refine hK _ _ ⟨by simp;omega,ge,hcl,.inr ⟨b,rest.drop 2,rfl,hb,?_,?_⟩⟩ ((hu1.mono fun _ e=>.inl (e▸hb)).tr (hu2.mono fun _ e=>.inl (e▸hb)))
  ·rw[hb2,hins]
   have:=M5 (A:=A) (X:=X) (B:=B) (R:=rest) (q:=2) (r:=(xs.length-k)*2) hA hB hrl;rw[←this];simp only[aP,hJ,rV]
  ·rw[aU,hr]
   simp only;rw[hlen];omega
abbrev rH(x:Option Addr):List Value:= [.pointer x]
theorem r7(x:Option Addr):(rH x).length=1∧0<1:=⟨rfl,by omega⟩
theorem Ei:∀xs:List (Option Addr),cz (xs.flatMap rH)=true
 | []=>rfl
 |x::xs=>by rw[aI];exact lw rfl (Ei xs)
theorem IJ{h:ad}{vb b o la ca lb cb:Nat}{cv cw:Array Value}{tv tb:TypeId}(hv:h[vb]? =some (.cells cv tv (0,0))) (hb:h[b]? =some (.cells cw tb (0,0))) (hn:vb≠b) (h0:cw.size≠0) {K:Bool→ad→Prop} (hk:K false h):
  HC PG iJ [.slice (some ⟨vb,0,none⟩) la ca,.slice (some ⟨b,o,none⟩) lb cb] [.c .bool] K h:=by
 refine⟨fun w hw=>.inr ⟨.bool false,w,?_,Tame.refl w,false,rfl,hw▸hk⟩⟩
 subst hw;rw[rR];have:=Lib.run_overlaps_apart (P:=PG) w rX xw bU (by kernel_rfl) (cl PG bU) (rK (by kernel_rfl)) ⟨vb,0,none⟩ ⟨b,o,none⟩ la ca lb cb hn tv tb cv.size cw.size
  (by simp[World.shape?,hv]) (by simp[World.shape?,hb]) h0 (by simp[World.frozen?,hv]) (by simp[World.frozen?,hv])
 rw[show([Value.slice (some ⟨vb,0,none⟩) la ca,Value.slice (some ⟨b,o,none⟩) lb cb]:List Value).toArray= #[.slice (some ⟨vb,0,none⟩) la ca,.slice (some ⟨b,o,none⟩) lb cb]from rfl,this]
 rfl
set_option maxRecDepth 4000 in
theorem M4{M:Nat→Prop}{h:ad}{s:SliceV}{xs:List (Option Addr)}(hs:OwnS rH 1 bU M h s xs){k:Nat}(hkl:k≤xs.length)(hn:(xs.length+1)*8≤140737488355328){x:Option Addr}{vb:Nat}(hv:h[vb]? =some (.cells (rH x).toArray bU (0,0)))
  (hvM:¬M vb) (hM:∀b,h.size≤b→M b) {K:SliceV→ad→Prop} (hK:∀s' h',OwnS rH 1 bU M h' s' (xs.take k++x::xs.drop k)→Upd M h h'→K s' h'):
  HC PG cK [.slice s.a s.len s.cap,.int .i64 k,.slice (some ⟨vb,0,none⟩) 1 1] [.c .slice] K h:=by
 refine lX s k ⟨some ⟨vb,0,none⟩,1,1⟩ ?_;unfold g8;have hlen:=hs.len;have hcap:=hs.cap;have hxr:SRow h (some ⟨vb,0,none⟩) (1*1) (rH x):=⟨rfl,.inr ⟨_,rfl,oV hv fun i v hi=>by simpa using hi⟩⟩
 refine⟨by omega,aj.2 ?_⟩;refine CondP.intro (fun e=>?_) fun e=>?_
 ·have e:k=xs.length:=by have:=of_decide_eq_true (by simpa using e:decide ((k:Int)=(s.len:Int))=true);omega
  subst e;refine⟨_,hxr,AppP.own (ys:= [x]) hs rfl (by simp) rfl rfl (by omega) (by simp;omega) (hM _ (aq _)) fun s' h' ho hu=>hK s' h' ?_ hu⟩
  rw[cS,List.drop_length];exact ho
 have hlt:k<xs.length:=by
  rcases ct k xs.length with h|h
  ·exact h
  ·have:((k:Int)==(s.len:Int))=true:=by rw[beq_iff_eq];omega
   rw[this]at e;cases e
 rcases hs.blk with h0|⟨b,rest,ha,hb,hc,hr⟩
 ·omega
 have hA:((xs.take k).flatMap rH).length=k*1:=by rw[lD r7,aQ,bF hkl]
 have hB:((xs.drop k).flatMap rH).length=(xs.length-k)*1:=by rw[lD r7,aU]
 have hbv:vb≠b:=fun e=>hvM (e▸hb)
 rw[zT (f:=rH) xs k]at hc;have hins:(xs.take k++x::xs.drop k).flatMap rH=(xs.take k).flatMap rH++(rH x++(xs.drop k).flatMap rH):=by rw[bO,aI]
 have hone:=Ei (xs.drop k);have hxl:(rH x).length=1:=rfl;have hx1:cz (rH x)=true:=rfl;generalize hAe:(xs.take k).flatMap rH=A at hA hc hins;generalize hBe:(xs.drop k).flatMap rH=B at hB hc hins hone;generalize rH x=X at hxr hxl hv hins hx1;rw[ha];have w1:IntKind.wrap .i64 ((xs.length:Int)+((1:Nat):Int))=((xs.length+1:Nat):Int):=by rw[d8 (by omega)];omega
 have w2:IntKind.wrap .i64 ((k:Int)+((1:Nat):Int))=((k+1:Nat):Int):=by rw[d8 (by omega)];omega
 have w3:IntKind.wrap .i64 (((xs.length+1:Nat):Int)-(k:Int))=((xs.length+1-k:Nat):Int):=by rw[d8 (by omega)];omega
 simp only[w1,w2,w3,aX,hlen];refine aA (fun hgt=>?_) fun hle=>?_
 ·
  have hcl:s.cap=xs.length:=by omega
  refine Join.plain ⟨by omega,⟨by omega,by omega,by omega,by omega⟩,fun hin=>?_,fun hout=>?_⟩
  ·omega
  ·refine⟨A,_,?_,rfl,by omega,Go.growslice_fits hout (by omega),fun nc hnc=>?_⟩
   ·rw[sub_zero]
    exact mc hc (by rw[hA];omega) (by simp only[cP,eH];rw[al,←hA,fQ (aq _),cS])
   ·simp only[aX]at hnc⊢
    have kn:=Upd.hnew No h (A++dQ (xs.length+1-k) [.pointer none]++dQ (nc-(k-0+(xs.length+1-k))) [.pointer none]) bU;have bn:=bZ h (A++dQ (xs.length+1-k) [.pointer none]++dQ (nc-(k-0+(xs.length+1-k))) [.pointer none]) bU;have hz1:(dQ (xs.length+1-k) [.pointer none]).length=(xs.length+1-k)*1:=mL _ _;have hz2:(dQ (nc-(k-0+(xs.length+1-k))) [.pointer none]).length=(nc-(k-0+(xs.length+1-k)))*1:=mL _ _
    have hncl:k-0+(xs.length+1-k)=xs.length+1:=by omega
    rw[cJ];have hsz:h.size≠vb:=fun e=>by have:=aO hv;omega
    have hszb:h.size≠b:=fun e=>by have:=aO hc;omega
    have hbc:=kn.get0 hc;have hvc:=kn.get0 hv;generalize hnew h _ bU=h9 at kn bn hbc hvc;rw[hncl]at hnc hz2⊢;have m1:dZ 1 (xs.length+1-k)=1:=bF (by omega);have m2:dZ (xs.length-k) (xs.length+1-(k+1))=xs.length-k:=bF (by omega);rw[m1];have xr9:SRow h9 (some ⟨vb,0,none⟩) (1*1) X:=mc hvc (by rw[hxl]) (by rw[cP,bm];rw[hxl];omega)
    refine⟨by omega,?_⟩;rw[ko (by omega)];refine lV xr9 hx1 bn (by simp only[ac,hA,hz1];omega) fun h11 hb11 hu11=>⟨by omega,?_⟩
    simp only[Bd];rw[ko (by omega),ko (by omega),m2];refine⟨by omega,?_⟩;have hbc11:=hu11.get hbc (fun e=>hszb e.symm)
    have br:SRow h11 (some ⟨b,0+k*1,none⟩) ((xs.length-k)*1) B:=mc hbc11 hB (by
     rw[aP,al,←hA,ga,←hB,f8])
    refine lV br hone hb11 ?_ fun h16 hb16 hu16=>?_
    ·simp only[ac,aQ,aU,hA,hz1,hxl];omega
    ·refine hK _ _ ⟨by simp;omega,r7,hnc,.inr ⟨h.size,dQ (nc-(xs.length+1)) [.pointer none],rfl,hM _ (aq _),?_,by rw[mL];rfl⟩⟩ ((kn.wide.trans (M':=(· =h.size)) hu11 fun b hb=>.inl (hb▸hM _ (aq _))).trans (M':=(· =h.size)) hu16 fun b hb=>.inl (hb▸hM _ (aq _)))
     rw[hb16,hins];have:=IR (A:=A) (X:=X) (B:=B) (Z1:=dQ (xs.length+1-k) [.pointer none]) (Z2:=dQ (nc-(xs.length+1)) [.pointer none]) (r:=(xs.length-k)*1) hA hxl (by rw[hz1,←hJ];congr 1;omega);rw[hncl,←this];simp only[aP,hJ,rV]
 ·have hcl:xs.length+1≤s.cap:=by omega
  refine⟨by omega,?_⟩;simp only[Bd,eH];rw[sub_zero,ko (show s.cap≠k+1 by omega),ko (show s.cap≠k by omega)]
  refine⟨by omega,?_⟩;have hrl:1≤rest.length:=by rw[hr];exact qt _ (by omega)
  refine IJ hv hc hbv (by rw[dz,ac];omega) ?_;refine av.2 ⟨by omega,by omega,?_⟩
  have m1:dZ 1 (xs.length+1-k)=1:=bF (by omega);have m2:dZ (xs.length+1-k) (xs.length+1-(k+1))=xs.length-k:=by
   rw[show xs.length+1-(k+1)=xs.length-k by omega];exact gt (by omega)
  rw[m2];have br:SRow h (some ⟨b,0+k*1,none⟩) ((xs.length-k)*1) B:=mc hc hB (by
   rw[aP,al,←hA,ga,←hB,f8])
  refine lV br hone hc (by simp only[ac,hA,hB];omega) fun h1 hb1 hu1=>⟨by omega,?_⟩
  rw[m1];have xr1:SRow h1 (some ⟨vb,0,none⟩) (1*1) X:=mc (hu1.get hv hbv) (by rw[hxl]) (by rw[cP,bm];rw[hxl];omega);refine lV xr1 hx1 hb1 (by simp only[ac,aQ,aU,hA,hB];omega) fun h2 hb2 hu2=>?_
  refine hK _ _ ⟨by simp;omega,r7,hcl,.inr ⟨b,rest.drop 1,rfl,hb,?_,?_⟩⟩ ((hu1.mono fun _ e=>.inl (e▸hb)).tr (hu2.mono fun _ e=>.inl (e▸hb)))
  ·rw[hb2,hins]
   have:=M5 (A:=A) (X:=X) (B:=B) (R:=rest) (q:=1) (r:=(xs.length-k)*1) hA hB hrl;rw[←this];simp only[aP,hJ,rV]
  ·rw[aU,hr]
   simp only;rw[hlen];omega
abbrev rD(x:Option Addr):List Value:= [.pointer x]
theorem pS(x:Option Addr):(rD x).length=1∧0<1:=⟨rfl,by omega⟩
theorem Eh:∀xs:List (Option Addr),cz (xs.flatMap rD)=true
 | []=>rfl
 |x::xs=>by rw[aI];exact lw rfl (Eh xs)
theorem IH{h:ad}{vb b o la ca lb cb:Nat}{cv cw:Array Value}{tv tb:TypeId}(hv:h[vb]? =some (.cells cv tv (0,0))) (hb:h[b]? =some (.cells cw tb (0,0))) (hn:vb≠b) (h0:cw.size≠0) {K:Bool→ad→Prop} (hk:K false h):
  HC PG iq [.slice (some ⟨vb,0,none⟩) la ca,.slice (some ⟨b,o,none⟩) lb cb] [.c .bool] K h:=by
 refine⟨fun w hw=>.inr ⟨.bool false,w,?_,Tame.refl w,false,rfl,hw▸hk⟩⟩
 subst hw;rw[rc];have:=Lib.run_overlaps_apart (P:=PG) w qL xw bP (by kernel_rfl) (cl PG bP) (rK (by kernel_rfl)) ⟨vb,0,none⟩ ⟨b,o,none⟩ la ca lb cb hn tv tb cv.size cw.size
  (by simp[World.shape?,hv]) (by simp[World.shape?,hb]) h0 (by simp[World.frozen?,hv]) (by simp[World.frozen?,hv])
 rw[show([Value.slice (some ⟨vb,0,none⟩) la ca,Value.slice (some ⟨b,o,none⟩) lb cb]:List Value).toArray= #[.slice (some ⟨vb,0,none⟩) la ca,.slice (some ⟨b,o,none⟩) lb cb]from rfl,this]
 rfl
set_option maxRecDepth 4000 in
theorem M2{M:Nat→Prop}{h:ad}{s:SliceV}{xs:List (Option Addr)}(hs:OwnS rD 1 bP M h s xs){k:Nat}(hkl:k≤xs.length)(hn:(xs.length+1)*8≤140737488355328){x:Option Addr}{vb:Nat}(hv:h[vb]? =some (.cells (rD x).toArray bP (0,0)))
  (hvM:¬M vb) (hM:∀b,h.size≤b→M b) {K:SliceV→ad→Prop} (hK:∀s' h',OwnS rD 1 bP M h' s' (xs.take k++x::xs.drop k)→Upd M h h'→K s' h'):
  HC PG ey [.slice s.a s.len s.cap,.int .i64 k,.slice (some ⟨vb,0,none⟩) 1 1] [.c .slice] K h:=by
 refine kW s k ⟨some ⟨vb,0,none⟩,1,1⟩ ?_;unfold gA;have hlen:=hs.len;have hcap:=hs.cap;have hxr:SRow h (some ⟨vb,0,none⟩) (1*1) (rD x):=⟨rfl,.inr ⟨_,rfl,oV hv fun i v hi=>by simpa using hi⟩⟩
 refine⟨by omega,aj.2 ?_⟩;refine CondP.intro (fun e=>?_) fun e=>?_
 ·have e:k=xs.length:=by have:=of_decide_eq_true (by simpa using e:decide ((k:Int)=(s.len:Int))=true);omega
  subst e;refine⟨_,hxr,AppP.own (ys:= [x]) hs rfl (by simp) rfl rfl (by omega) (by simp;omega) (hM _ (aq _)) fun s' h' ho hu=>hK s' h' ?_ hu⟩
  rw[cS,List.drop_length];exact ho
 have hlt:k<xs.length:=by
  rcases ct k xs.length with h|h
  ·exact h
  ·have:((k:Int)==(s.len:Int))=true:=by rw[beq_iff_eq];omega
   rw[this]at e;cases e
 rcases hs.blk with h0|⟨b,rest,ha,hb,hc,hr⟩
 ·omega
 have hA:((xs.take k).flatMap rD).length=k*1:=by rw[lD pS,aQ,bF hkl]
 have hB:((xs.drop k).flatMap rD).length=(xs.length-k)*1:=by rw[lD pS,aU]
 have hbv:vb≠b:=fun e=>hvM (e▸hb)
 rw[zT (f:=rD) xs k]at hc;have hins:(xs.take k++x::xs.drop k).flatMap rD=(xs.take k).flatMap rD++(rD x++(xs.drop k).flatMap rD):=by rw[bO,aI]
 have hone:=Eh (xs.drop k);have hxl:(rD x).length=1:=rfl;have hx1:cz (rD x)=true:=rfl;generalize hAe:(xs.take k).flatMap rD=A at hA hc hins;generalize hBe:(xs.drop k).flatMap rD=B at hB hc hins hone;generalize rD x=X at hxr hxl hv hins hx1;rw[ha];have w1:IntKind.wrap .i64 ((xs.length:Int)+((1:Nat):Int))=((xs.length+1:Nat):Int):=by rw[d8 (by omega)];omega
 have w2:IntKind.wrap .i64 ((k:Int)+((1:Nat):Int))=((k+1:Nat):Int):=by rw[d8 (by omega)];omega
 have w3:IntKind.wrap .i64 (((xs.length+1:Nat):Int)-(k:Int))=((xs.length+1-k:Nat):Int):=by rw[d8 (by omega)];omega
 simp only[w1,w2,w3,aX,hlen];refine aA (fun hgt=>?_) fun hle=>?_
 ·
  have hcl:s.cap=xs.length:=by omega
  refine Join.plain ⟨by omega,⟨by omega,by omega,by omega,by omega⟩,fun hin=>?_,fun hout=>?_⟩
  ·omega
  ·refine⟨A,_,?_,rfl,by omega,Go.growslice_fits hout (by omega),fun nc hnc=>?_⟩
   ·rw[sub_zero]
    exact mc hc (by rw[hA];omega) (by simp only[cP,eH];rw[al,←hA,fQ (aq _),cS])
   ·simp only[aX]at hnc⊢
    have kn:=Upd.hnew No h (A++dQ (xs.length+1-k) [.pointer none]++dQ (nc-(k-0+(xs.length+1-k))) [.pointer none]) bP;have bn:=bZ h (A++dQ (xs.length+1-k) [.pointer none]++dQ (nc-(k-0+(xs.length+1-k))) [.pointer none]) bP;have hz1:(dQ (xs.length+1-k) [.pointer none]).length=(xs.length+1-k)*1:=mL _ _;have hz2:(dQ (nc-(k-0+(xs.length+1-k))) [.pointer none]).length=(nc-(k-0+(xs.length+1-k)))*1:=mL _ _
    have hncl:k-0+(xs.length+1-k)=xs.length+1:=by omega
    rw[cJ];have hsz:h.size≠vb:=fun e=>by have:=aO hv;omega
    have hszb:h.size≠b:=fun e=>by have:=aO hc;omega
    have hbc:=kn.get0 hc;have hvc:=kn.get0 hv;generalize hnew h _ bP=h9 at kn bn hbc hvc;rw[hncl]at hnc hz2⊢;have m1:dZ 1 (xs.length+1-k)=1:=bF (by omega);have m2:dZ (xs.length-k) (xs.length+1-(k+1))=xs.length-k:=bF (by omega);rw[m1];have xr9:SRow h9 (some ⟨vb,0,none⟩) (1*1) X:=mc hvc (by rw[hxl]) (by rw[cP,bm];rw[hxl];omega)
    refine⟨by omega,?_⟩;rw[ko (by omega)];refine lV xr9 hx1 bn (by simp only[ac,hA,hz1];omega) fun h11 hb11 hu11=>⟨by omega,?_⟩
    simp only[Bd];rw[ko (by omega),ko (by omega),m2];refine⟨by omega,?_⟩;have hbc11:=hu11.get hbc (fun e=>hszb e.symm)
    have br:SRow h11 (some ⟨b,0+k*1,none⟩) ((xs.length-k)*1) B:=mc hbc11 hB (by
     rw[aP,al,←hA,ga,←hB,f8])
    refine lV br hone hb11 ?_ fun h16 hb16 hu16=>?_
    ·simp only[ac,aQ,aU,hA,hz1,hxl];omega
    ·refine hK _ _ ⟨by simp;omega,pS,hnc,.inr ⟨h.size,dQ (nc-(xs.length+1)) [.pointer none],rfl,hM _ (aq _),?_,by rw[mL];rfl⟩⟩ ((kn.wide.trans (M':=(· =h.size)) hu11 fun b hb=>.inl (hb▸hM _ (aq _))).trans (M':=(· =h.size)) hu16 fun b hb=>.inl (hb▸hM _ (aq _)))
     rw[hb16,hins];have:=IR (A:=A) (X:=X) (B:=B) (Z1:=dQ (xs.length+1-k) [.pointer none]) (Z2:=dQ (nc-(xs.length+1)) [.pointer none]) (r:=(xs.length-k)*1) hA hxl (by rw[hz1,←hJ];congr 1;omega);rw[hncl,←this];simp only[aP,hJ,rV]
 ·have hcl:xs.length+1≤s.cap:=by omega
  refine⟨by omega,?_⟩;simp only[Bd,eH];rw[sub_zero,ko (show s.cap≠k+1 by omega),ko (show s.cap≠k by omega)]
  refine⟨by omega,?_⟩;have hrl:1≤rest.length:=by rw[hr];exact qt _ (by omega)
  refine IH hv hc hbv (by rw[dz,ac];omega) ?_;refine av.2 ⟨by omega,by omega,?_⟩
  have m1:dZ 1 (xs.length+1-k)=1:=bF (by omega);have m2:dZ (xs.length+1-k) (xs.length+1-(k+1))=xs.length-k:=by
   rw[show xs.length+1-(k+1)=xs.length-k by omega];exact gt (by omega)
  rw[m2];have br:SRow h (some ⟨b,0+k*1,none⟩) ((xs.length-k)*1) B:=mc hc hB (by
   rw[aP,al,←hA,ga,←hB,f8])
  refine lV br hone hc (by simp only[ac,hA,hB];omega) fun h1 hb1 hu1=>⟨by omega,?_⟩
  rw[m1];have xr1:SRow h1 (some ⟨vb,0,none⟩) (1*1) X:=mc (hu1.get hv hbv) (by rw[hxl]) (by rw[cP,bm];rw[hxl];omega);refine lV xr1 hx1 hb1 (by simp only[ac,aQ,aU,hA,hB];omega) fun h2 hb2 hu2=>?_
  refine hK _ _ ⟨by simp;omega,pS,hcl,.inr ⟨b,rest.drop 1,rfl,hb,?_,?_⟩⟩ ((hu1.mono fun _ e=>.inl (e▸hb)).tr (hu2.mono fun _ e=>.inl (e▸hb)))
  ·rw[hb2,hins]
   have:=M5 (A:=A) (X:=X) (B:=B) (R:=rest) (q:=1) (r:=(xs.length-k)*1) hA hB hrl;rw[←this];simp only[aP,hJ,rV]
  ·rw[aU,hr]
   simp only;rw[hlen];omega
end Go.Proofs
namespace Go.Proofs
open Go Go.Lift
theorem vD{W:Nat→Prop}{h:ad}{s:SliceV}{xs:List (ByteArray×ByteArray)}(h1:Sl eu 2 W h s xs)(hn:xs.length*32≤140737488355328){K:SliceV→ad→Prop}
  (hk:∀s' h',OwnS eu 2 af (fun b=>h.size≤b) h' s' xs→Upd No h h'→K s' h'):HC PG cG [.slice s.a s.len s.cap] [.c .slice] K h:=by
 refine om s ?_;unfold je nZ;refine CondP.intro (fun he=>?_) (fun hne=>?_)
 ·have he:s.a=none:=by simpa using he
  have hx:xs= []:=by
   by_cases hx:xs= []
   ·exact hx
   ·obtain⟨a,ha,_⟩:=h1.row hx
    rw[he]at ha;cases ha
  subst hx;exact hk _ _ (OwnS.nil ge) (Upd.refl _ _)
 ·have h2:=h1.upd (Upd.hnew No h [] af) (fun _ h=>h.elim)
  refine⟨_,h2.srow,?_⟩;refine AppP.own (f:=eu) (M:=fun b=>h.size≤b) (xs:= []) (ys:=xs) ⟨rfl,ge,aq _,.inl rfl⟩ h1.len rfl (ww xs) rfl (by omega) (by simpa using hn) (by rw[iS];omega) fun s' h' ho hu=>?_
  exact hk _ _ ho ((Upd.hnew No h [] af).trans hu fun b hb=>.inr hb)
theorem Nk{M:Nat→Prop}{h:ad}{s:SliceV}{xs:List (ByteArray×ByteArray)}(hs:OwnS eu 2 af M h s xs){k:Nat}(hkl:k<xs.length)(hn:xs.length≤4398046511104)
  {K:SliceV→ad→Prop}(hK:∀s' h',OwnS eu 2 af M h' s' (xs.take k++xs.drop (k+1))→Upd M h h'→K s' h'):
  HC PG fx [.slice s.a s.len s.cap,.int .i64 k,.int .i64 ((k+1:Nat):Int)] [.c .slice] K h:=by
 refine nM s k ((k+1:Nat):Int) ?_;unfold iW nZ;have hlen:=hs.len;have hcap:=hs.cap;rcases hs.blk with h0|⟨b,rest,ha,hb,hc,hr⟩
 ·omega
 have hA:((xs.take k).flatMap eu).length=k*2:=by rw[lD ge,aQ,bF (by omega)]
 have hB:((xs.drop (k+1)).flatMap eu).length=(xs.length-(k+1))*2:=by rw[lD ge,aU]
 have e1:xs.flatMap eu=(xs.take k).flatMap eu++(eu xs[k]++(xs.drop (k+1)).flatMap eu):=by
  rw[←aI,←jN hkl];exact zT xs k
 rw[e1]at hc;have hone:=ww (xs.drop (k+1));have hins:(xs.take k++xs.drop (k+1)).flatMap eu=(xs.take k).flatMap eu++(xs.drop (k+1)).flatMap eu:=bO;have hX:(eu xs[k]).length=2:=rfl;generalize (xs.take k).flatMap eu=A at hA hc hins;generalize (xs.drop (k+1)).flatMap eu=B at hB hc hone hins;generalize eu xs[k]=X at hX hc;rw[ha];simp only[hlen,aX];refine⟨by omega,by omega,by omega,CondP.intro (fun e=>?_) fun _=>?_⟩
 ·have:(k:Int)=((k+1:Nat):Int):=by simpa using e
  omega
 refine Join.plain ⟨by omega,by omega,B,?_,?_⟩
 ·by_cases hlast:xs.length=k+1
  ·exact⟨hB,.inl (aw.1 (by rw[hB,hlast,gb,wY]))⟩
  rw[ko (by omega)];refine mc hc hB ?_;have:(A++X).length=0+(k+1)*2:=by rw[ac];omega
  rw[show A++(X++B)++rest=(A++X)++(B++rest) by simp only[al],cL this,dd hB]
 ·rw[sub_zero]
  refine Ns hc (by simp only[ac];omega) (by omega) hone fun h1 hb1 hu1=>?_
  have hr':rest.length=(s.cap-xs.length)*2:=by rw[hr,hlen]
  refine⟨by dsimp only;omega,by dsimp only;omega,?_⟩
  simp only[Bd];rw[ko (by omega)];have en:xs.length-(k-0+(xs.length-(k+1)))=1:=by omega
  have hd1:(A++(X++B)++rest).drop ((k-0)*2+B.length)=(X++B).drop B.length++rest:=by
   rw[al,←dP,cL (show A.length=(k-0)*2 by rw[hA,eH]),fR (by rw[ac];omega)]
  have ht1:(A++(X++B)++rest).take ((k-0)*2)=A:=by rw[al,dd (show A.length=(k-0)*2 by rw[hA,eH])]
  rw[hd1,ht1]at hb1;have hdl:((X++B).drop B.length).length=2:=by rw[aU,ac];omega
  generalize (X++B).drop B.length=D at hdl hb1;rw[en];have hz:(dQ 1 [.string (⟨#[]⟩:ByteArray),.string (⟨#[]⟩:ByteArray)]).length=2:=rfl;have hAB:(A++B).length=0+(k-0+(xs.length-(k+1)))*2:=by rw[ac,hA,hB];omega
  refine IB hb1 (by simp only[ac]at hAB⊢;omega) fun h2 hb2 hu2=>?_
  rw[dd hAB,←dP,cL hAB]at hb2;refine hK _ _ ⟨by simp;omega,ge,by simp only;omega,.inr ⟨b,dQ 1 [.string (⟨#[]⟩:ByteArray),.string (⟨#[]⟩:ByteArray)]++(D++rest).drop (dQ 1 [.string (⟨#[]⟩:ByteArray),.string (⟨#[]⟩:ByteArray)]).length,rfl,hb,?_,?_⟩⟩ ((hu1.mono fun _ e=>.inl (e▸hb)).tr (hu2.mono fun _ e=>.inl (e▸hb)))
  ·rw[hb2,hins];simp only[al]
  ·simp only[ac,aU,hz,hdl,hr']
   omega
theorem Ct{W:Nat→Prop}{h:ad}{s:SliceV}{xs:List (Option Addr)}(h1:Sl rH 1 W h s xs)(hn:xs.length*8≤140737488355328){K:SliceV→ad→Prop}
  (hk:∀s' h',OwnS rH 1 bU (fun b=>h.size≤b) h' s' xs→Upd No h h'→K s' h'):HC PG dC [.slice s.a s.len s.cap] [.c .slice] K h:=by
 refine mf s ?_;unfold il;refine CondP.intro (fun he=>?_) (fun hne=>?_)
 ·have he:s.a=none:=by simpa using he
  have hx:xs= []:=by
   by_cases hx:xs= []
   ·exact hx
   ·obtain⟨a,ha,_⟩:=h1.row hx
    rw[he]at ha;cases ha
  subst hx;exact hk _ _ (OwnS.nil r7) (Upd.refl _ _)
 ·have h2:=h1.upd (Upd.hnew No h [] bU) (fun _ h=>h.elim)
  refine⟨_,h2.srow,?_⟩;refine AppP.own (f:=rH) (M:=fun b=>h.size≤b) (xs:= []) (ys:=xs) ⟨rfl,r7,aq _,.inl rfl⟩ h1.len rfl (Ei xs) rfl (by omega) (by simpa using hn) (by rw[iS];omega) fun s' h' ho hu=>?_
  exact hk _ _ ho ((Upd.hnew No h [] bU).trans hu fun b hb=>.inr hb)
theorem Nl{M:Nat→Prop}{h:ad}{s:SliceV}{xs:List (Option Addr)}(hs:OwnS rH 1 bU M h s xs){k:Nat}(hkl:k<xs.length)(hn:xs.length≤4398046511104)
  {K:SliceV→ad→Prop}(hK:∀s' h',OwnS rH 1 bU M h' s' (xs.take k++xs.drop (k+1))→Upd M h h'→K s' h'):
  HC PG eN [.slice s.a s.len s.cap,.int .i64 k,.int .i64 ((k+1:Nat):Int)] [.c .slice] K h:=by
 refine lY s k ((k+1:Nat):Int) ?_;unfold g9;have hlen:=hs.len;have hcap:=hs.cap;rcases hs.blk with h0|⟨b,rest,ha,hb,hc,hr⟩
 ·omega
 have hA:((xs.take k).flatMap rH).length=k*1:=by rw[lD r7,aQ,bF (by omega)]
 have hB:((xs.drop (k+1)).flatMap rH).length=(xs.length-(k+1))*1:=by rw[lD r7,aU]
 have e1:xs.flatMap rH=(xs.take k).flatMap rH++(rH xs[k]++(xs.drop (k+1)).flatMap rH):=by
  rw[←aI,←jN hkl];exact zT xs k
 rw[e1]at hc;have hone:=Ei (xs.drop (k+1));have hins:(xs.take k++xs.drop (k+1)).flatMap rH=(xs.take k).flatMap rH++(xs.drop (k+1)).flatMap rH:=bO;have hX:(rH xs[k]).length=1:=rfl;generalize (xs.take k).flatMap rH=A at hA hc hins;generalize (xs.drop (k+1)).flatMap rH=B at hB hc hone hins;generalize rH xs[k]=X at hX hc;rw[ha];simp only[hlen,aX];refine⟨by omega,by omega,by omega,CondP.intro (fun e=>?_) fun _=>?_⟩
 ·have:(k:Int)=((k+1:Nat):Int):=by simpa using e
  omega
 refine Join.plain ⟨by omega,by omega,B,?_,?_⟩
 ·by_cases hlast:xs.length=k+1
  ·exact⟨hB,.inl (aw.1 (by rw[hB,hlast,gb,wY]))⟩
  rw[ko (by omega)];refine mc hc hB ?_;have:(A++X).length=0+(k+1)*1:=by rw[ac];omega
  rw[show A++(X++B)++rest=(A++X)++(B++rest) by simp only[al],cL this,dd hB]
 ·rw[sub_zero]
  refine Ns hc (by simp only[ac];omega) (by omega) hone fun h1 hb1 hu1=>?_
  have hr':rest.length=(s.cap-xs.length)*1:=by rw[hr,hlen]
  refine⟨by dsimp only;omega,by dsimp only;omega,?_⟩
  simp only[Bd];rw[ko (by omega)];have en:xs.length-(k-0+(xs.length-(k+1)))=1:=by omega
  have hd1:(A++(X++B)++rest).drop ((k-0)*1+B.length)=(X++B).drop B.length++rest:=by
   rw[al,←dP,cL (show A.length=(k-0)*1 by rw[hA,eH]),fR (by rw[ac];omega)]
  have ht1:(A++(X++B)++rest).take ((k-0)*1)=A:=by rw[al,dd (show A.length=(k-0)*1 by rw[hA,eH])]
  rw[hd1,ht1]at hb1;have hdl:((X++B).drop B.length).length=1:=by rw[aU,ac];omega
  generalize (X++B).drop B.length=D at hdl hb1;rw[en];have hz:(dQ 1 [.pointer none]).length=1:=rfl;have hAB:(A++B).length=0+(k-0+(xs.length-(k+1)))*1:=by rw[ac,hA,hB];omega
  refine IB hb1 (by simp only[ac]at hAB⊢;omega) fun h2 hb2 hu2=>?_
  rw[dd hAB,←dP,cL hAB]at hb2;refine hK _ _ ⟨by simp;omega,r7,by simp only;omega,.inr ⟨b,dQ 1 [.pointer none]++(D++rest).drop (dQ 1 [.pointer none]).length,rfl,hb,?_,?_⟩⟩ ((hu1.mono fun _ e=>.inl (e▸hb)).tr (hu2.mono fun _ e=>.inl (e▸hb)))
  ·rw[hb2,hins];simp only[al]
  ·simp only[ac,aU,hz,hdl,hr']
   omega
theorem HU{W:Nat→Prop}{h:ad}{s:SliceV}{xs:List (Option Addr)}(h1:Sl rD 1 W h s xs)(hn:xs.length*8≤140737488355328){K:SliceV→ad→Prop}
  (hk:∀s' h',OwnS rD 1 bP (fun b=>h.size≤b) h' s' xs→Upd No h h'→K s' h'):HC PG dh [.slice s.a s.len s.cap] [.c .slice] K h:=by
 refine lJ s ?_;unfold gK;refine CondP.intro (fun he=>?_) (fun hne=>?_)
 ·have he:s.a=none:=by simpa using he
  have hx:xs= []:=by
   by_cases hx:xs= []
   ·exact hx
   ·obtain⟨a,ha,_⟩:=h1.row hx
    rw[he]at ha;cases ha
  subst hx;exact hk _ _ (OwnS.nil pS) (Upd.refl _ _)
 ·have h2:=h1.upd (Upd.hnew No h [] bP) (fun _ h=>h.elim)
  refine⟨_,h2.srow,?_⟩;refine AppP.own (f:=rD) (M:=fun b=>h.size≤b) (xs:= []) (ys:=xs) ⟨rfl,pS,aq _,.inl rfl⟩ h1.len rfl (Eh xs) rfl (by omega) (by simpa using hn) (by rw[iS];omega) fun s' h' ho hu=>?_
  exact hk _ _ ho ((Upd.hnew No h [] bP).trans hu fun b hb=>.inr hb)
theorem Nj{M:Nat→Prop}{h:ad}{s:SliceV}{xs:List (Option Addr)}(hs:OwnS rD 1 bP M h s xs){k:Nat}(hkl:k<xs.length)(hn:xs.length≤4398046511104)
  {K:SliceV→ad→Prop}(hK:∀s' h',OwnS rD 1 bP M h' s' (xs.take k++xs.drop (k+1))→Upd M h h'→K s' h'):
  HC PG eA [.slice s.a s.len s.cap,.int .i64 k,.int .i64 ((k+1:Nat):Int)] [.c .slice] K h:=by
 refine kX s k ((k+1:Nat):Int) ?_;unfold gB;have hlen:=hs.len;have hcap:=hs.cap;rcases hs.blk with h0|⟨b,rest,ha,hb,hc,hr⟩
 ·omega
 have hA:((xs.take k).flatMap rD).length=k*1:=by rw[lD pS,aQ,bF (by omega)]
 have hB:((xs.drop (k+1)).flatMap rD).length=(xs.length-(k+1))*1:=by rw[lD pS,aU]
 have e1:xs.flatMap rD=(xs.take k).flatMap rD++(rD xs[k]++(xs.drop (k+1)).flatMap rD):=by
  rw[←aI,←jN hkl];exact zT xs k
 rw[e1]at hc;have hone:=Eh (xs.drop (k+1));have hins:(xs.take k++xs.drop (k+1)).flatMap rD=(xs.take k).flatMap rD++(xs.drop (k+1)).flatMap rD:=bO;have hX:(rD xs[k]).length=1:=rfl;generalize (xs.take k).flatMap rD=A at hA hc hins;generalize (xs.drop (k+1)).flatMap rD=B at hB hc hone hins;generalize rD xs[k]=X at hX hc;rw[ha];simp only[hlen,aX];refine⟨by omega,by omega,by omega,CondP.intro (fun e=>?_) fun _=>?_⟩
 ·have:(k:Int)=((k+1:Nat):Int):=by simpa using e
  omega
 refine Join.plain ⟨by omega,by omega,B,?_,?_⟩
 ·by_cases hlast:xs.length=k+1
  ·exact⟨hB,.inl (aw.1 (by rw[hB,hlast,gb,wY]))⟩
  rw[ko (by omega)];refine mc hc hB ?_;have:(A++X).length=0+(k+1)*1:=by rw[ac];omega
  rw[show A++(X++B)++rest=(A++X)++(B++rest) by simp only[al],cL this,dd hB]
 ·rw[sub_zero]
  refine Ns hc (by simp only[ac];omega) (by omega) hone fun h1 hb1 hu1=>?_
  have hr':rest.length=(s.cap-xs.length)*1:=by rw[hr,hlen]
  refine⟨by dsimp only;omega,by dsimp only;omega,?_⟩
  simp only[Bd];rw[ko (by omega)];have en:xs.length-(k-0+(xs.length-(k+1)))=1:=by omega
  have hd1:(A++(X++B)++rest).drop ((k-0)*1+B.length)=(X++B).drop B.length++rest:=by
   rw[al,←dP,cL (show A.length=(k-0)*1 by rw[hA,eH]),fR (by rw[ac];omega)]
  have ht1:(A++(X++B)++rest).take ((k-0)*1)=A:=by rw[al,dd (show A.length=(k-0)*1 by rw[hA,eH])]
  rw[hd1,ht1]at hb1;have hdl:((X++B).drop B.length).length=1:=by rw[aU,ac];omega
  generalize (X++B).drop B.length=D at hdl hb1;rw[en];have hz:(dQ 1 [.pointer none]).length=1:=rfl;have hAB:(A++B).length=0+(k-0+(xs.length-(k+1)))*1:=by rw[ac,hA,hB];omega
  refine IB hb1 (by simp only[ac]at hAB⊢;omega) fun h2 hb2 hu2=>?_
  rw[dd hAB,←dP,cL hAB]at hb2;refine hK _ _ ⟨by simp;omega,pS,by simp only;omega,.inr ⟨b,dQ 1 [.pointer none]++(D++rest).drop (dQ 1 [.pointer none]).length,rfl,hb,?_,?_⟩⟩ ((hu1.mono fun _ e=>.inl (e▸hb)).tr (hu2.mono fun _ e=>.inl (e▸hb)))
  ·rw[hb2,hins];simp only[al]
  ·simp only[ac,aU,hz,hdl,hr']
   omega
end Go.Proofs
namespace Go.Proofs
open Go.Lift
abbrev Pr:=ByteArray×ByteArray
theorem Cu{a b:ByteArray}:a.toList=b.toList↔a=b:=by
 constructor
 ·intro h
  rw[ByteArray.toList_eq,ByteArray.toList_eq]at h;cases a;cases b;simp at h;subst h;rfl
 ·rintro rfl;rfl
def kl(a b:ByteArray):Prop:=Op.bytesLess a.toList b.toList=true
instance (a b:ByteArray):Decidable (kl a b):=inferInstanceAs (Decidable (_=true))
theorem IQ{a b:ByteArray}:kl a b↔a.toList<b.toList:=by unfold kl;rw[bytesLess_eq,decide_eq_true_iff]
theorem bW(a:ByteArray):¬kl a a:=by rw[IQ];exact List.lt_irrefl _
theorem fE{a b c:ByteArray}(h:kl a b)(k:kl b c):kl a c:=by rw[IQ]at*;exact List.lt_trans h k
theorem tri:∀x y:List UInt8,Op.bytesLess x y=false→x≠y→Op.bytesLess y x=true
 | [],[],_,h=>absurd rfl h
 | [],_::_,h,_=>by simp[Op.bytesLess]at h
 |_::_,[],_,_=>rfl
 |a::x,b::y,h,hn=>by
  simp only[Op.bytesLess,Bool.or_eq_false_iff,decide_eq_false_iff_not,Bool.and_eq_false_iff]at h;simp only[Op.bytesLess,Bool.or_eq_true,decide_eq_true_iff,Bool.and_eq_true];by_cases e:a=b
  ·subst e
   right;refine⟨by simp,tri x y ?_ fun e=>hn (by rw[e])⟩
   rcases h.2 with h|h
   ·simp at h
   ·exact h
  ·left
   have h1:=h.1;rw[UInt8.lt_iff_toNat_lt]at h1⊢;have:a.toNat≠b.toNat:=fun h=>e (UInt8.toNat_inj.1 h)
   omega
theorem ph{a b:ByteArray}(h:¬kl a b)(k:a≠b):kl b a:=tri _ _ (by unfold kl at h;simpa using h) fun e=>k (Cu.1 e)
def GB(a b:ByteArray):Int:=if kl a b then-1 else if a=b then 0 else 1
theorem KQ{x:ByteArray}{h:ad}{K:Bool→ad→Prop}(hk:K false h):HC PG oY [.string x] [.c .bool] K h:=by
 refine Ec x ?_;unfold xm;simpa using hk
theorem FF{a b:ByteArray}{h:ad}{K:Int→ad→Prop}(hk:K (GB a b) h):HC PG mz [.string a,.string b] [.c (.int .i64)] K h:=by
 refine Bt a b ?_;unfold uN;refine KQ (KQ (aj.2 (aj.2 ?_)));unfold GB at hk;refine CondP.intro (fun e=>?_) fun e=>?_
 ·rw[if_pos (show kl a b from e)]at hk;exact hk
 ·have hn:¬kl a b:=fun h=>by rw[show Op.bytesLess a.toList b.toList=true from h]at e;cases e
  rw[if_neg hn]at hk;rw[e];refine CondP.intro (fun e2=>?_) fun e2=>?_
  ·rw[if_neg (fun h=>by subst h;simp at e2)]at hk;exact hk
  ·have:a.toList=b.toList:=by simpa using e2
   rw[if_pos (Cu.1 this)]at hk;exact hk
theorem KA{p:Pr}{k:ByteArray}{h:ad}{K:Int→ad→Prop}(hk:∀h',Upd No h h'→K (GB p.1 k) h'):HC PG qa [.agg #[.string p.1,.string p.2],.string k] [.c (.int .i64)] K h:=by
 refine Jp p k ?_;unfold BC au jH bX vp;have b1:=bZ h [.string p.1,.string p.2] af;refine⟨p.1,by rw[cJ,ci,bh b1];rfl,FF (hk _ (Upd.hnew No h _ _))⟩
abbrev bE(l:List Pr):Prop:=l.Pairwise fun p q=>kl p.1 q.1
def pg(l:List Pr)(k:ByteArray):Nat:=(l.takeWhile fun p=>decide (kl p.1 k)).length
def cx(l:List Pr)(k:ByteArray):Bool:=l.any fun p=>decide (p.1=k)
theorem Q7{l:List Pr}{k:ByteArray}{i:Nat}(hi:i≤l.length)(h1:∀j (h:j<l.length),j<i→kl l[j].1 k)(h2:∀(h:i<l.length),¬kl l[i].1 k):pg l k=i:=by
 unfold pg;induction l generalizing i with
 |nil=>simp at hi;simp[hi]
 |cons p l ih=>
  rw[List.takeWhile_cons];cases i with
  |zero=>
   have:=h2 (by simp);simp only[fy]at this;rw[if_neg (by simpa using this)];rfl
  |succ i=>
   have:=h1 0 (by simp) (by omega);simp only[fy]at this;rw[if_pos (by simpa using this),List.length_cons];congr 1
   refine ih (by simpa using hi) (fun j hj hji=>?_) fun h=>?_
   ·have:=h1 (j+1) (by simpa using hj) (by omega)
    simpa using this
   ·have:=h2 (by simpa using h)
    simpa using this
theorem Q8(l:List Pr)(k:ByteArray):pg l k≤l.length:=by
 unfold pg;exact(List.takeWhile_prefix _).length_le
theorem IW{W:Nat→Prop}{h:ad}{s:SliceV}{l:List Pr}(hs:Sl eu 2 W h s l)(hr:bE l)(hn:l.length≤1000000000)(k:ByteArray){K:Int×Bool→ad→Prop}
  (hk:∀h',Upd No h h'→K ((pg l k:Int),cx l k) h'):HC PG rM [.slice s.a s.len s.cap,.string k] [.c (.int .i64),.c .bool] K h:=by
 refine Lw s k ?_;unfold DL ja;refine jv s k _ ?_;unfold fa cj aD bX qF;have hlen:=hs.len;have cmp:∀{p:Pr} {h:ad} {K:Int→ad→Prop},(∀h',Upd No h h'→K (GB p.1 k) h')→HV PG (.func (.func qa) #[] #[]) [.agg #[.string p.1,.string p.2],.string k] [.c (.int .i64)] K h:=fun hk=>HV.mk' (KA hk)
 refine LoopP.ghost (fun(g:Nat×Nat) (t:Int×Int) h'=>t.1=(g.1:Int)∧t.2=(g.2:Int)∧g.1≤g.2∧g.2≤l.length∧Upd No h h'∧(∀j (hj:j<l.length),j<g.1→kl l[j].1 k)∧(∀j (hj:j<l.length),g.2≤j→¬kl l[j].1 k)) (fun g=>g.2-g.1) (0,l.length)
  ⟨rfl,by simp only;omega,by simp,by simp,Upd.refl _ _,fun j hj h=>by omega,fun j hj h=>by simp only at h;omega⟩ ?_
 rintro I ⟨i,j⟩ ⟨ti,tj⟩ h' ⟨e1,e2,hij,hjl,hu,hlo,hhi⟩ hI;simp only at e1 e2 hij hjl hlo hhi;subst e1 e2;have hs':=hs.upd hu fun _ h=>h.elim
 have mono:∀a b (ha:a<l.length) (hb:b<l.length),a<b→kl l[a].1 l[b].1:=fun a b ha hb hab=>List.pairwise_iff_getElem.1 hr a b ha hb hab
 refine aA (fun hlt=>?_) fun hge=>?_
 ·have hlt:i<j:=by have:(i:Int)<(j:Int):=hlt;omega
  have em:IntKind.wrap .i64 (dT (IntKind.wrap .u64 (IntKind.wrap .i64 ((i:Int)+(j:Int)))) (2^(min (1:Int).toNat (IntKind.bits .u64))))=(((i+j)/2:Nat):Int):=by
   have e3:(2^(min (1:Int).toNat (IntKind.bits .u64)):Int)=2:=rfl;rw[e3,d8 (x:=(i:Int)+(j:Int)) (by omega),Go.IntWalk.u64_in _ (by omega),Int.fdiv_eq_ediv_of_nonneg _ (by omega),d8 (by omega)];omega
  refine⟨by decide,?_⟩;simp only[Bd];rw[em];generalize hm:(i+j)/2=m;have hml:m<l.length:=by omega
  obtain⟨a,ha,_,hv⟩:=hs'.at (ai hml);refine⟨by omega,a,ha,l[m].1,hv 0 _ rfl,l[m].2,hv 1 _ rfl,cmp fun h2 hu2=>?_⟩
  refine aA (fun hneg=>?_) fun hpos=>?_
  ·have hkl:kl l[m].1 k:=by
    unfold GB at hneg;by_cases hkl:kl l[m].1 k
    ·exact hkl
    ·rw[if_neg hkl]at hneg;split at hneg<;>omega
   refine hI (m+1,j) _ _ ⟨by simp only;rw[d8 (by omega)];omega,rfl,by simp only;omega,hjl,hu.tr hu2,fun q hq hqm=>?_,hhi⟩ (by simp only;omega)
   simp only at hqm;rcases ct q m with h|h
   ·exact fE (mono q m hq hml h) hkl
   ·have:q=m:=by omega
    subst this;exact hkl
  ·have hnk:¬kl l[m].1 k:=fun hkl=>hpos (by unfold GB;rw[if_pos hkl];decide)
   refine hI (i,m) _ _ ⟨rfl,rfl,by simp only;omega,by simp only;omega,hu.tr hu2,hlo,fun q hq hqm hqk=>?_⟩ (by simp only;omega)
   simp only at hqm;rcases ct m q with h|h
   ·exact hnk (fE (mono m q hml hq h) hqk)
   ·have:q=m:=by omega
    subst this;exact hnk hqk
 ·have hij:i=j:=by have:¬(i:Int)<(j:Int):=hge;omega
  subst hij;have hp:pg l k=i:=Q7 hjl hlo fun hi=>hhi i hi (aq _)
  rw[hp]at hk;refine aA (fun hlt=>?_) fun hnl=>?_
  ·have hil:i<l.length:=by have:(i:Int)<(s.len:Int):=hlt;omega
   obtain⟨a,ha,_,hv⟩:=hs'.at (ai hil);refine⟨by simp only;omega,a,ha,l[i].1,hv 0 _ rfl,l[i].2,hv 1 _ rfl,cmp fun h2 hu2=>?_⟩
   have hnk:=hhi i hil (aq _);have et:(GB l[i].1 k==(0:Int))=cx l k:=by
    unfold GB cx;rw[if_neg hnk,Bool.eq_iff_iff,List.any_eq_true];constructor
    ·intro h
     split at h
     ·rename_i e;exact⟨l[i],List.getElem_mem hil,decide_eq_true e⟩
     ·simp at h
    ·rintro⟨p,hp,e⟩
     have e:=of_decide_eq_true e;obtain⟨q,hq,rfl⟩:=List.mem_iff_getElem.1 hp;have:q=i:=by
      rcases Nat.lt_trichotomy q i with h|h|h
      ·exact absurd (e▸hlo q hq h) (bW _)
      ·exact h
      ·exact absurd (e▸mono i q hil hq h) hnk
     subst this;rw[if_pos e];rfl
   rw[et];exact hk _ (hu.tr hu2)
  ·have hil:i=l.length:=by have:¬(i:Int)<(s.len:Int):=hnl;omega
   have et:cx l k=false:=by
    unfold cx;rw[List.any_eq_false];intro p hp e;have e:=of_decide_eq_true e;obtain⟨q,hq,rfl⟩:=List.mem_iff_getElem.1 hp;exact absurd (e▸hlo q hq (by omega)) (bW _)
   rw[et]at hk;exact hk _ hu
end Go.Proofs
namespace Go.Proofs
inductive Fo where
 |nil:Fo
 |cons (lab:List UInt8) (val:Option ByteArray) (kids rest:Fo):Fo
abbrev Bn:=List UInt8×Option ByteArray×Fo
def Fo.toL:Fo→List Bn
 | .nil=> []
 | .cons lab w kids rest=>(lab,w,kids)::rest.toL
theorem Fo.toL_cons(lab:List UInt8)(w:Option ByteArray)(kids rest:Fo):(Fo.cons lab w kids rest).toL=(lab,w,kids)::rest.toL:=rfl
def Fo.ofL:List Bn→Fo
 | []=>.nil
 |(lab,w,kids)::l=>.cons lab w kids (Fo.ofL l)
theorem Fo.to_of:∀l:List Bn,(Fo.ofL l).toL=l
 | []=>rfl
 |(_,_,_)::l=>by show _::(Fo.ofL l).toL=_;rw[Fo.to_of l]
theorem Fo.of_to:∀F:Fo,Fo.ofL F.toL=F
 | .nil=>rfl
 | .cons lab w kids rest=>by show Fo.cons lab w kids (Fo.ofL rest.toL)=_;rw[Fo.of_to rest]
def qG:Fo→List UInt8→ByteArray→Prop
 | .nil,_,_=>False
 | .cons lab w kids rest,k,v=>(∃r,k=lab++r∧((r= []∧w=some v)∨qG kids r v))∨qG rest k v
def sf(w:Option ByteArray)(F:Fo)(k:List UInt8)(v:ByteArray):Prop:=(k= []∧w=some v)∨qG F k v
def vf(n:Bn)(k:List UInt8)(v:ByteArray):Prop:=∃r,k=n.1++r∧sf n.2.1 n.2.2 r v
theorem fK:∀{F:Fo} {k:List UInt8} {v:ByteArray},qG F k v↔∃n∈F.toL,vf n k v
 | .nil,_,_=>by simp[qG,Fo.toL]
 | .cons lab w kids rest,k,v=>by
  rw[Fo.toL_cons];unfold qG;rw[fK (F:=rest)];constructor
  ·rintro(h|⟨n,hn,h⟩)
   ·exact⟨_,ao ..,h⟩
   ·exact⟨n,aC _ hn,h⟩
  ·rintro⟨n,hn,h⟩
   rcases az.1 hn with rfl|hn
   ·exact .inl h
   ·exact .inr ⟨n,hn,h⟩
def hd(k:List UInt8):Nat:=(k.headD 0).toNat
theorem pj{a b:List UInt8}(h:a≠[]):hd (a++b)=hd a:=by
 cases a with
 |nil=>exact absurd rfl h
 |cons x a=>rfl
theorem TS(a:List UInt8):hd a<256:=UInt8.toNat_lt _
def fS:Fo→Prop
 | .nil=>True
 | .cons lab w kids rest=>lab≠[]∧(w.isSome∨2≤kids.toL.length)∧fS kids∧(∀n∈rest.toL,hd lab<hd n.1)∧fS rest
def Qc(n:Bn):Prop:=n.1≠[]∧(n.2.1.isSome∨2≤n.2.2.toL.length)∧fS n.2.2
theorem ef:∀{F:Fo},fS F↔F.toL.Pairwise (fun m n=>hd m.1<hd n.1)∧∀n∈F.toL,Qc n
 | .nil=>by simp[fS,Fo.toL]
 | .cons lab w kids rest=>by
  rw[Fo.toL_cons,aG];show(lab≠[]∧(w.isSome∨2≤kids.toL.length)∧fS kids∧(∀n∈rest.toL,hd lab<hd n.1)∧fS rest)↔_
  rw[ef (F:=rest)];constructor
  ·rintro⟨h1,h2,h3,h4,h5,h6⟩
   refine⟨⟨h4,h5⟩,fun n hn=>?_⟩
   rcases az.1 hn with rfl|hn
   ·exact⟨h1,h2,h3⟩
   ·exact h6 n hn
  ·rintro⟨⟨h4,h5⟩,h6⟩
   have:=h6 _ (ao ..);exact⟨this.1,this.2.1,this.2.2,h4,h5,fun n hn=>h6 n (aC _ hn)⟩
theorem mZ:∀{F:Fo},fS F→∀n∈F.toL,∃r v,sf n.2.1 n.2.2 r v
 | .nil,_,n,hn=>by simp[Fo.toL]at hn
 | .cons lab w kids rest,h,n,hn=>by
  rcases az.1 hn with rfl|hn
  ·rcases h.2.1 with hw|hk
   ·obtain⟨v,hv⟩:=iG.1 hw
    exact⟨[],v,.inl ⟨rfl,hv⟩⟩
   ·have ih:=mZ h.2.2.1
    have⟨m,hm⟩:∃m,m∈kids.toL:=by
     cases hl:kids.toL with
     |nil=>rw[hl]at hk;simp at hk
     |cons m l=>exact⟨m,ao ..⟩
    obtain⟨r,v,hr⟩:=ih m hm;exact⟨m.1++r,v,.inr (fK.2 ⟨m,hm,r,rfl,hr⟩)⟩
  ·exact mZ h.2.2.2.2 n hn
theorem pi{F:Fo}(h:fS F){k:List UInt8}{v:ByteArray}(hi:qG F k v):k≠[]:=by
 obtain⟨n,hn,r,rfl,_⟩:=fK.1 hi;have:=((ef.1 h).2 n hn).1;intro e;exact this (jj.1 e).1
theorem qU{F:Fo}(h:fS F){k:List UInt8}{v:ByteArray}(hi:qG F k v):∃n∈F.toL,hd n.1=hd k∧vf n k v:=by
 obtain⟨n,hn,r,e,hr⟩:=fK.1 hi;exact⟨n,hn,by rw[e,pj ((ef.1 h).2 n hn).1],r,e,hr⟩
theorem wR{F:Fo}(h:fS F){m n:Bn}(hm:m∈F.toL)(hn:n∈F.toL)(e:hd m.1=hd n.1):m=n:=by
 have hp:=(ef.1 h).1;revert hm hn;generalize F.toL=l at*;clear h;induction l with
 |nil=>intro hm;simp at hm
 |cons a l ih=>
  have hp:=aG.1 hp;intro hm hn;rcases az.1 hm with e1|hm1
  ·rcases az.1 hn with e2|hn1
   ·rw[e1,e2]
   ·have:=hp.1 n hn1;rw[←e1]at this;omega
  ·rcases az.1 hn with e2|hn1
   ·have:=hp.1 m hm1;rw[←e2]at this;omega
   ·exact ih hp.2 hm1 hn1
def Br(P:List UInt8→ByteArray→Prop):Prop:=(∃v,P [] v)∨∃j k u v,P j u∧P k v∧j≠[]∧k≠[]∧hd j≠hd k
theorem Jf{w:Option ByteArray}{F:Fo}(h:fS F):(w.isSome∨2≤F.toL.length)↔Br (sf w F):=by
 constructor
 ·rintro(hw|hl)
  ·obtain⟨v,hv⟩:=iG.1 hw
   exact .inl ⟨v,.inl ⟨rfl,hv⟩⟩
  ·right
   have hs:=mZ h;have hc:=ef.1 h;match hL:F.toL,hl with
   |a::b::l,_=>
    have ha:a∈F.toL:=by rw[hL];simp
    have hb:b∈F.toL:=by rw[hL];simp
    obtain⟨r,v,hr⟩:=hs a ha;obtain⟨s,u,hs⟩:=hs b hb;have h1:=(hc.2 a ha).1;have h2:=(hc.2 b hb).1;have:=hc.1;rw[hL]at this;have h3:=(aG.1 this).1 b (ao ..);refine⟨a.1++r,b.1++s,v,u,.inr (fK.2 ⟨a,ha,r,rfl,hr⟩),.inr (fK.2 ⟨b,hb,s,rfl,hs⟩),?_,?_,?_⟩
    ·intro e;exact h1 (jj.1 e).1
    ·intro e;exact h2 (jj.1 e).1
    ·rw[pj h1,pj h2];omega
 ·rintro(⟨v,hv⟩|⟨j,k,u,v,hj,hk,nj,nk,hne⟩)
  ·rcases hv with⟨_,hv⟩|hv
   ·left;rw[hv];rfl
   ·exact absurd rfl (pi h hv)
  ·right
   rcases hj with⟨e,_⟩|hj
   ·exact absurd e nj
   rcases hk with⟨e,_⟩|hk
   ·exact absurd e nk
   obtain⟨m,hm,em,_⟩:=qU h hj;obtain⟨n,hn,en,_⟩:=qU h hk;match hL:F.toL with
   | []=>rw[hL]at hm;simp at hm
   | [a]=>
    rw[hL]at hm hn;rw[aB.1 hm]at em;rw[aB.1 hn]at en;omega
   |a::b::l=>simp
end Go.Proofs
