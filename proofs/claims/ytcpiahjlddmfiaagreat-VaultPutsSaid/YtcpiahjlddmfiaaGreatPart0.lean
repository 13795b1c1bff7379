/- A part of the proof that the named laws of this program answer true, whatever the input. -/
import Derived.Test.YtcpiahjlddmfiaaGreatTreeF0
import Derived.Test.YtcpiahjlddmfiaaGreatTreeF1
import Derived.Test.YtcpiahjlddmfiaaGreatTreeF2
import Derived.Test.YtcpiahjlddmfiaaGreatLaw0
import Derived.Test.YtcpiahjlddmfiaaGreatLift3
import Derived.Lib.Overlaps
import Derived.Sort.Walk0
open BitVec renaming ofInt→af
open ByteArray renaming size_extract→eh
open Int renaming fdiv→dY,toNat_natCast→aF
open List renaming flatMap_cons→aK,take_length→ba,drop_length→o8,length_take→aJ,length_drop→aI,flatMap_append→bA,drop_zero→dE,append_assoc→ao,take_append_of_le_length→eF,take_of_length_le→bh,length_append→ae,drop_left→ji,take_left→lf,size_toArray→cP,drop_eq_getElem_cons→eA,length_eq_zero_iff→co,drop_left'→cn,take_left'→cX,drop_drop→cS,drop_append_of_le_length→gc,getElem_cons_zero→jC,length_cons→aN,pairwise_iff_getElem→ey,getElem?_eq_getElem→al,any_eq_true→bS,replicate→dM,replicate_succ→l0,flatten_append→eD,flatten_cons→fx,flatten_nil→o6,length→eH
open Nat renaming zero_le→aP,zero_add→aA,sub_self→nX,le_refl→aj,lt_or_ge→bV,min_eq_left→bf,sub_zero→eT,min→dy,add_one_mul→fG,one_mul→pY,le_mul_of_pos_left→nZ,min_eq_right→oZ,zero_mul→uT
namespace Go.Proofs
open Go.Lift
theorem Av(n:Int):0≤IntKind.wrap .u64 n∧IntKind.wrap .u64 n<18446744073709551616:=by rw[IntKind.wrap_u64];omega
theorem kE{x:Int}(h: -4611686018427387904≤x∧x≤4611686018427387904):IntKind.wrap .i64 x=x:=Go.IntWalk.i64_in _ (by omega)
theorem bN{i n:Nat}(h:i<n)(a:n≤4611686018427387904):IntKind.wrap .i64 ((i:Int)+1)=((i+1:Nat):Int):=by rw[kE (by omega)];omega
theorem yv{h:ac}{b i:Nat}{c:Array Value}{t:TypeId}{v:Value}{k:ac→Prop}(hb:h[b]? =some (.cells c t (0,0)))
  (a:∀h',h'[b]? =some (.cells (c.setIfInBounds i v) t (0,0))→Upd (· =b) h h'→k h'):At (hset h ⟨b,i,none⟩ v) k:=by
 refine a _ ?_ (Upd.hset _ _ rfl);rw[tO hb,gg hb]
def IL(a b:Int):Int:=IntKind.wrap .u64 (af (IntKind.bits .u64) a&&&af (IntKind.bits .u64) b).toNat
def cN(a b:Int):Int:=IntKind.wrap .u64 (af (IntKind.bits .u64) a^^^af (IntKind.bits .u64) b).toNat
def Dg(a b:Int):Int:=IntKind.wrap .u64 (af (IntKind.bits .u64) a|||af (IntKind.bits .u64) b).toNat
def C8(x n:Int):Int:=
 Dg (IntKind.wrap .u64 (x*2^(min (IL (IntKind.wrap .u64 n) 63).toNat (IntKind.bits .u64)))) (dY x (2^(min (IntKind.wrap .u64 (64-IL (IntKind.wrap .u64 n) 63)).toNat (IntKind.bits .u64))))
theorem AB{x n:Int}{h:ac}{K:Int→ac→Prop}(a:K (C8 x n) h):HC PG cJ [.int .u64 x,.int .i64 n] [.c (.int .u64)] K h:=by
 refine tw x n ?_;unfold mg;exact⟨(Av _).1,(Av _).1,a⟩
abbrev Q4:=Int×Int×Int×Int
def q4(s:Q4):Array Value:= #[.int .u64 s.1,.int .u64 s.2.1,.int .u64 s.2.2.1,.int .u64 s.2.2.2]
def P6(a b:Int):Int:=IntKind.wrap .u64 (a+b)
def Qt(s:Q4):Q4:=(P6 s.1 s.2.1,s.2)
def QU(s:Q4):Q4:=(s.1,cN (C8 s.2.1 13) s.1,s.2.2)
def R0(s:Q4):Q4:=(C8 s.1 32,s.2)
def Sy(s:Q4):Q4:=(s.1,s.2.1,P6 s.2.2.1 s.2.2.2,s.2.2.2)
def Tg(s:Q4):Q4:=(s.1,s.2.1,s.2.2.1,cN (C8 s.2.2.2 16) s.2.2.1)
def Tz(s:Q4):Q4:=(P6 s.1 s.2.2.2,s.2)
def Uf(s:Q4):Q4:=(s.1,s.2.1,s.2.2.1,cN (C8 s.2.2.2 21) s.1)
def Us(s:Q4):Q4:=(s.1,s.2.1,P6 s.2.2.1 s.2.1,s.2.2.2)
def s09(s:Q4):Q4:=(s.1,cN (C8 s.2.1 17) s.2.2.1,s.2.2)
def Ur(s:Q4):Q4:=(s.1,s.2.1,C8 s.2.2.1 32,s.2.2.2)
def jw(s:Q4):Q4:=Ur (s09 (Us (Uf (Tz (Tg (Sy (R0 (QU (Qt s)))))))))
def nq:Nat→Q4→Q4
 |0,s=>s
 |n+1,s=>nq n (jw s)
theorem oF{h:ac}{b i:Nat}{t:TypeId}{s s':Q4}{v:Value}{k:ac→Prop}(hb:h[b]? =some (.cells (q4 s) t (0,0))) (e:(q4 s).setIfInBounds i v=q4 s')
  (d:∀h',h'[b]? =some (.cells (q4 s') t (0,0))→Upd (· =b) h h'→k h'):At (hset h ⟨b,i,none⟩ v) k:=
 yv hb fun h' a c=>d h' (e▸a) c
theorem E7{n:Nat}(Z:n≤100){h:ac}{b:Nat}{t:TypeId}{s:Q4}(hb:h[b]? =some (.cells (q4 s) t (0,0))) {K:Unit→ac→Prop}
  (L:∀h',h'[b]? =some (.cells (q4 (nq n s)) t (0,0))→Upd (· =b) h h'→K () h'):HC PG g6 [.pointer (some ⟨b,0,none⟩),.int .i64 n] [] K h:=by
 refine yy _ _ ?_;unfold rB aR cx c9 om;refine LoopP.ghost (fun(g:Nat×Q4) (O:Int) h'=>O=(g.1:Int)∧g.1≤n∧h'[b]? =some (.cells (q4 g.2) t (0,0))∧Upd (· =b) h h'∧nq (n-g.1) g.2=nq n s) (fun g=>n-g.1) (0,s) ⟨rfl,aP _,hb,Upd.refl _ _,rfl⟩ ?_
 rintro I ⟨i,d⟩ O h' ⟨N,hi,a,P,x⟩ S;simp only at N hi a x;subst N;refine aw (fun u=>?_) fun R=>?_
 ·have u:i<n:=by omega
  have c:∀{h:ac} {s:Q4} {i:Nat},h[b]? =some (.cells (q4 s) t (0,0))→aX h ⟨b,0+i,none⟩=(q4 s)[i]?:=fun hb=>by rw[aA];exact aL hb
  have w:∀{h:ac} {s:Q4} {i:Nat},h[b]? =some (.cells (q4 s) t (0,0))→i<4→Wr h ⟨b,0+i,none⟩:=fun hb hi=>by rw[aA];exact f6 hb hi
  simp only[show((0:Int)).toNat*1=0 from rfl,show((1:Int)).toNat*1=1 from rfl,show((2:Int)).toNat*1=2 from rfl,show((3:Int)).toNat*1=3 from rfl]
  refine⟨_,rfl,by decide,_,c (i:=0) a,_,rfl,by decide,_,c (i:=1) a,_,rfl,by decide,w (i:=0) a (by decide),oF (s':=Qt d) a rfl fun h2 f B=>?_⟩
  refine⟨_,rfl,by decide,_,c (i:=1) f,_,rfl,by decide,_,c (i:=0) f,_,rfl,AB ⟨c (i:=0) f,by decide,w (i:=1) f (by decide),oF (s':=QU (Qt d)) f rfl fun h3 v D=>?_⟩⟩
  refine⟨_,rfl,by decide,_,c (i:=0) v,_,rfl,AB ⟨by decide,w (i:=0) v (by decide),oF (s':=R0 (QU (Qt d))) v rfl fun U p C=>?_⟩⟩
  refine⟨_,rfl,by decide,_,c (i:=2) p,_,rfl,by decide,_,c (i:=3) p,_,rfl,by decide,w (i:=2) p (by decide),oF (s':=Sy (R0 (QU (Qt d)))) p rfl fun W e H=>?_⟩
  refine⟨_,rfl,by decide,_,c (i:=3) e,_,rfl,by decide,_,c (i:=2) e,_,rfl,AB ⟨c (i:=2) e,by decide,w (i:=3) e (by decide),oF (s':=Tg (Sy (R0 (QU (Qt d))))) e rfl fun h6 q G=>?_⟩⟩
  refine⟨_,rfl,by decide,_,c (i:=0) q,_,rfl,by decide,_,c (i:=3) q,_,rfl,by decide,w (i:=0) q (by decide),oF (s':=Tz (Tg (Sy (R0 (QU (Qt d)))))) q rfl fun X m J=>?_⟩
  refine⟨_,rfl,by decide,_,c (i:=3) m,_,rfl,by decide,_,c (i:=0) m,_,rfl,AB ⟨c (i:=0) m,by decide,w (i:=3) m (by decide),oF (s':=Uf (Tz (Tg (Sy (R0 (QU (Qt d))))))) m rfl fun V o F=>?_⟩⟩
  refine⟨_,rfl,by decide,_,c (i:=2) o,_,rfl,by decide,_,c (i:=1) o,_,rfl,by decide,w (i:=2) o (by decide),oF (s':=Us (Uf (Tz (Tg (Sy (R0 (QU (Qt d)))))))) o rfl fun Y j E=>?_⟩
  refine⟨_,rfl,by decide,_,c (i:=1) j,_,rfl,by decide,_,c (i:=2) j,_,rfl,AB ⟨c (i:=2) j,by decide,w (i:=1) j (by decide),oF (s':=s09 (Us (Uf (Tz (Tg (Sy (R0 (QU (Qt d))))))))) j rfl fun Q k A=>?_⟩⟩
  refine⟨_,rfl,by decide,_,c (i:=2) k,_,rfl,AB ⟨by decide,w (i:=2) k (by decide),oF (s':=jw d) k rfl fun T z y=>?_⟩⟩
  rw[bN u (by omega)];refine S (i+1,jw d) _ _ ⟨rfl,u,z,P.tr (B.tr (D.tr (C.tr (H.tr (G.tr (J.tr (F.tr (E.tr (A.tr y))))))))),?_⟩ (by simp only;omega);simp only;rw[←x,show n-i=(n-(i+1))+1 by omega];rfl
 ·obtain rfl:i=n:=by omega
  rw[nX]at x;have x:d=nq i s:=x;rw[←x]at L;exact L _ a P
end Go.Proofs
namespace Go.Proofs
open Go.Lift
def IK(s:ByteArray)(i:Nat):Int:=match s[i]? with|some b=>(b.toNat:Int)|none=>0
def RZ(b:Int)(n:Int):Int:=IntKind.wrap .u64 ((IntKind.wrap .u64 b)*2^(min n.toNat (IntKind.bits .u64)))
def wj(s:ByteArray):Nat→Int→Int
 |0,t=>t
 |k+1,t=>wj s k (Dg t (if k=0 then IntKind.wrap .u64 (IK s 0)else RZ (IK s k) ((8*k:Nat):Int)))
def xu(s:ByteArray):Int:=wj s s.size 0
theorem sq{s:ByteArray}{i:Nat}(h:i<s.size):∃b,s[i]? =some b∧IK s i=(b.toNat:Int):=⟨s[i],getElem?_pos s i h,by simp[IK,getElem?_pos s i h]⟩
theorem LM{s:ByteArray}(D:s.size≤8){h:ac}{K:Int→ac→Prop}(d:K (xu s) h):HC PG uB [.string s] [.c (.int .u64)] K h:=by
 refine Lf s ?_;unfold Ea;refine Join.intro (fun t h'=>h'=h∧1≤s.size∧wj s 1 t=wj s s.size 0) (fun P n=>?_) ?_
 ·refine Join.intro (fun t h'=>h'=h∧2≤s.size∧wj s 2 t=wj s s.size 0) (fun L f=>?_) ?_
  ·refine Join.intro (fun t h'=>h'=h∧3≤s.size∧wj s 3 t=wj s s.size 0) (fun I o=>?_) ?_
   ·refine Join.intro (fun t h'=>h'=h∧4≤s.size∧wj s 4 t=wj s s.size 0) (fun G k=>?_) ?_
    ·refine Join.intro (fun t h'=>h'=h∧5≤s.size∧wj s 5 t=wj s s.size 0) (fun A m=>?_) ?_
     ·refine Join.intro (fun t h'=>h'=h∧6≤s.size∧wj s 6 t=wj s s.size 0) (fun C j=>?_) ?_
      ·refine Join.intro (fun t h'=>h'=h∧7≤s.size∧wj s 7 t=wj s s.size 0) (fun J g=>?_) ?_
       ·refine CondP.intro (fun e=>?_) fun u=>?_
        ·have e:s.size=8:=by have:=of_decide_eq_true (by simpa using e:decide ((s.size:Int)=8)=true);omega
         obtain⟨b,hb,hv⟩:=sq (s:=s) (i:=7) (by omega);refine⟨b,by decide,hb,by decide,g _ _ ⟨rfl,by omega,?_⟩⟩
         rw[e,←hv];rfl
        refine CondP.intro (fun e=>?_) fun y=>?_
        ·have e:s.size=7:=by have:=of_decide_eq_true (by simpa using e:decide ((s.size:Int)=7)=true);omega
         exact g _ _ ⟨rfl,by omega,by rw[e]⟩
        refine CondP.intro (fun e=>?_) fun q=>?_
        ·have e:s.size=6:=by have:=of_decide_eq_true (by simpa using e:decide ((s.size:Int)=6)=true);omega
         exact j _ _ ⟨rfl,by omega,by rw[e]⟩
        refine CondP.intro (fun e=>?_) fun p=>?_
        ·have e:s.size=5:=by have:=of_decide_eq_true (by simpa using e:decide ((s.size:Int)=5)=true);omega
         exact m _ _ ⟨rfl,by omega,by rw[e]⟩
        refine CondP.intro (fun e=>?_) fun v=>?_
        ·have e:s.size=4:=by have:=of_decide_eq_true (by simpa using e:decide ((s.size:Int)=4)=true);omega
         exact k _ _ ⟨rfl,by omega,by rw[e]⟩
        refine CondP.intro (fun e=>?_) fun z=>?_
        ·have e:s.size=3:=by have:=of_decide_eq_true (by simpa using e:decide ((s.size:Int)=3)=true);omega
         exact o _ _ ⟨rfl,by omega,by rw[e]⟩
        refine CondP.intro (fun e=>?_) fun x=>?_
        ·have e:s.size=2:=by have:=of_decide_eq_true (by simpa using e:decide ((s.size:Int)=2)=true);omega
         exact f _ _ ⟨rfl,by omega,by rw[e]⟩
        refine CondP.intro (fun e=>?_) fun w=>?_
        ·have e:s.size=1:=by have:=of_decide_eq_true (by simpa using e:decide ((s.size:Int)=1)=true);omega
         exact n _ _ ⟨rfl,by omega,by rw[e]⟩
        have e:s.size=0:=by
         have B:¬(s.size:Int)=1:=by simpa using w
         have N:¬(s.size:Int)=2:=by simpa using x
         have E:¬(s.size:Int)=3:=by simpa using z
         have q4:¬(s.size:Int)=4:=by simpa using v
         have O:¬(s.size:Int)=5:=by simpa using p
         have F:¬(s.size:Int)=6:=by simpa using q
         have H:¬(s.size:Int)=7:=by simpa using y
         have Q:¬(s.size:Int)=8:=by simpa using u
         omega
        unfold xu at d;rw[e]at d;exact d
       ·rintro t _ ⟨rfl,a,c⟩
        obtain⟨b,hb,hv⟩:=sq (s:=s) (i:=6) (by omega);refine⟨b,by decide,hb,by decide,j _ _ ⟨rfl,by omega,?_⟩⟩
        rw[←c,←hv];rfl
      ·rintro t _ ⟨rfl,a,c⟩
       obtain⟨b,hb,hv⟩:=sq (s:=s) (i:=5) (by omega);refine⟨b,by decide,hb,by decide,m _ _ ⟨rfl,by omega,?_⟩⟩
       rw[←c,←hv];rfl
     ·rintro t _ ⟨rfl,a,c⟩
      obtain⟨b,hb,hv⟩:=sq (s:=s) (i:=4) (by omega);refine⟨b,by decide,hb,by decide,k _ _ ⟨rfl,by omega,?_⟩⟩
      rw[←c,←hv];rfl
    ·rintro t _ ⟨rfl,a,c⟩
     obtain⟨b,hb,hv⟩:=sq (s:=s) (i:=3) (by omega);refine⟨b,by decide,hb,by decide,o _ _ ⟨rfl,by omega,?_⟩⟩
     rw[←c,←hv];rfl
   ·rintro t _ ⟨rfl,a,c⟩
    obtain⟨b,hb,hv⟩:=sq (s:=s) (i:=2) (by omega);refine⟨b,by decide,hb,by decide,f _ _ ⟨rfl,by omega,?_⟩⟩
    rw[←c,←hv];rfl
  ·rintro t _ ⟨rfl,a,c⟩
   obtain⟨b,hb,hv⟩:=sq (s:=s) (i:=1) (by omega);refine⟨b,by decide,hb,by decide,n _ _ ⟨rfl,by omega,?_⟩⟩
   rw[←c,←hv];rfl
 ·rintro t _ ⟨rfl,a,c⟩
  obtain⟨b,hb,hv⟩:=sq (s:=s) (i:=0) (by omega);refine⟨b,by decide,hb,?_⟩
  unfold xu at d;rw[←c]at d;rw[←hv];exact d
end Go.Proofs
namespace Go.Proofs
open Go.Lift
def qo(m:Int)(s:Q4):Q4:=
 let r:=nq 2 (s.1,s.2.1,s.2.2.1,cN s.2.2.2 m)
 (cN r.1 m,r.2)
theorem LW{m:Int}{h:ac}{b:Nat}{t:TypeId}{s:Q4}(hb:h[b]? =some (.cells (q4 s) t (0,0))) {K:Unit→ac→Prop}
  (e:∀h',h'[b]? =some (.cells (q4 (qo m s)) t (0,0))→Upd (· =b) h h'→K () h'):HC PG lu [.pointer (some ⟨b,0,none⟩),.int .u64 m] [] K h:=by
 refine Bb _ _ ?_;unfold tX aR cx c9 p6;have c:∀{h:ac} {s:Q4} {i:Nat},h[b]? =some (.cells (q4 s) t (0,0))→aX h ⟨b,0+i,none⟩=(q4 s)[i]?:=fun hb=>by rw[aA];exact aL hb
 have w:∀{h:ac} {s:Q4} {i:Nat},h[b]? =some (.cells (q4 s) t (0,0))→i<4→Wr h ⟨b,0+i,none⟩:=fun hb hi=>by rw[aA];exact f6 hb hi
 simp only[show((0:Int)).toNat*1=0 from rfl,show((3:Int)).toNat*1=3 from rfl]
 refine⟨_,rfl,by decide,_,c (i:=3) hb,_,rfl,by decide,w (i:=3) hb (by decide),oF (s':=(s.1,s.2.1,s.2.2.1,cN s.2.2.2 m)) hb rfl fun p d k=>?_⟩
 refine E7 (n:=2) (by omega) d fun u a j=>?_
 have o:qo m s=(cN (nq 2 (s.1,s.2.1,s.2.2.1,cN s.2.2.2 m)).1 m,(nq 2 (s.1,s.2.1,s.2.2.1,cN s.2.2.2 m)).2):=by unfold qo;rfl
 rw[o]at e;generalize nq 2 (s.1,s.2.1,s.2.2.1,cN s.2.2.2 m)=r at a e;refine⟨_,rfl,by decide,_,c (i:=0) a,_,rfl,by decide,w (i:=0) a (by decide),oF (s':=(cN r.1 m,r.2)) a rfl fun q g f=>?_⟩
 exact e _ g (k.tr (j.tr f))
def Bt:Nat→ByteArray→Q4→ByteArray×Q4
 |0,s,q=>(s,q)
 |n+1,s,q=>if 8≤s.size then Bt n (s.extract 8 s.size) (qo (xu (s.extract 0 8)) q)else(s,q)
def SU(r:Q4):Int:=cN (cN (cN r.1 r.2.1) r.2.2.1) r.2.2.2
def RD(q:Q4):Int:=SU (nq 4 (q.1,q.2.1,cN q.2.2.1 255,q.2.2.2))
def Tx(n:Nat)(g:ByteArray×Q4):Int:=RD (qo (Dg (xu g.1) (RZ (n:Int) 56)) g.2)
def JG(k0 k1:Int)(s:ByteArray):Int:=
 Tx s.size (Bt s.size s (cN k0 8317987319222330741,cN k1 7237128888997146477,cN k0 7816392313619706465,cN k1 8387220255154660723))
theorem RE{a:ac}{b:Nat}{t:TypeId}{r:Q4}(hb:a[b]? =some (.cells (q4 r) t (0,0))) {K:Int→Prop} (f:K (SU r)):
  (((0:Int)≤(0:Int)∧(0:Int)<((4:Nat):Int))∧
   ∃v30:Int,aX a (adr ⟨b,0,none⟩ ((0:Int).toNat*1))=some (.int .u64 v30)∧
   (((0:Int)≤(1:Int)∧(1:Int)<((4:Nat):Int))∧
    ∃v31:Int,aX a (adr ⟨b,0,none⟩ ((1:Int).toNat*1))=some (.int .u64 v31)∧
    Bd (IntKind.wrap .u64 (af (IntKind.bits .u64) v30^^^af (IntKind.bits .u64) v31).toNat:Int) (fun n32=>
     (((0:Int)≤(2:Int)∧(2:Int)<((4:Nat):Int))∧
      ∃v33:Int,aX a (adr ⟨b,0,none⟩ ((2:Int).toNat*1))=some (.int .u64 v33)∧
      Bd (IntKind.wrap .u64 (af (IntKind.bits .u64) n32^^^af (IntKind.bits .u64) v33).toNat:Int) (fun e=>
       (((0:Int)≤(3:Int)∧(3:Int)<((4:Nat):Int))∧
        ∃v35:Int,aX a (adr ⟨b,0,none⟩ ((3:Int).toNat*1))=some (.int .u64 v35)∧
        Bd (IntKind.wrap .u64 (af (IntKind.bits .u64) e^^^af (IntKind.bits .u64) v35).toNat:Int) (fun d=>
         K d))))))):=by
 have c:∀{i:Nat},aX a ⟨b,0+i,none⟩=(q4 r)[i]?:=by intro i;rw[aA];exact aL hb
 exact⟨by decide,_,c (i:=0),by decide,_,c (i:=1),by decide,_,c (i:=2),by decide,_,c (i:=3),f⟩
theorem RC{a:ac}{b:Nat}{t:TypeId}{q:Q4}(hb:a[b]? =some (.cells (q4 q) t (0,0))) {K:Unit→ac→Prop}
  (m:∀h',h'[b]? =some (.cells (q4 (nq 4 (q.1,q.2.1,cN q.2.2.1 255,q.2.2.2))) t (0,0))→Upd (· =b) a h'→K () h'):
  (((0:Int)≤(2:Int)∧(2:Int)<((4:Nat):Int))∧
   ∃v25:Int,aX a (adr ⟨b,0,none⟩ ((2:Int).toNat*1))=some (.int .u64 v25)∧
   Bd (IntKind.wrap .u64 (af (IntKind.bits .u64) v25^^^af (IntKind.bits .u64) 255).toNat:Int) (fun e=>
    (((0:Int)≤(2:Int)∧(2:Int)<((4:Nat):Int))∧
     (Wr a (adr ⟨b,0,none⟩ ((2:Int).toNat*1))∧
      At (hset a (adr ⟨b,0,none⟩ ((2:Int).toNat*1)) (.int .u64 e)) (fun j=>
       HC PG g6 [.pointer (some ⟨b,0,none⟩),.int .i64 4] [] K j))))):=by
 have c:∀{i:Nat},aX a ⟨b,0+i,none⟩=(q4 q)[i]?:=by intro i;rw[aA];exact aL hb
 refine⟨by decide,_,c (i:=2),by decide,by rw[show((2:Int)).toNat*1=2 from rfl,bB];exact f6 hb (by simp[q4]),?_⟩
 refine oF (s':=(q.1,q.2.1,cN q.2.2.1 255,q.2.2.2)) hb rfl fun p k g=>?_
 exact E7 (n:=4) (by omega) k fun o f d=>m o f (g.tr d)
theorem bq{h:ac}{k:ac→Prop}(a:k h):At h k:=a
theorem Sr{k0 k1:Int}{s:ByteArray}{h:ac}{K:Int→ac→Prop}(B:∀h',Upd No h h'→K (JG k0 k1 s) h'):HC PG AQ [.agg #[.int .u64 k0,.int .u64 k1],.string s] [.c (.int .u64)] K h:=by
 refine NP (k0,k1) s ?_;unfold FV aR cx ad nv c9 p6 TB MF MK QC;have t:=Upd.hnew No h [.int .u64 k0,.int .u64 k1] jT;have b1:=bG h [.int .u64 k0,.int .u64 k1] jT;have E:=eI h [.int .u64 k0,.int .u64 k1] jT;refine bq ?_;simp only[bZ h];generalize hnew h [.int .u64 k0,.int .u64 k1] jT=h1 at t b1 E;refine⟨k0,by rw[bB,aL b1];rfl,k1,by rw[bB,aL b1];rfl,k0,by rw[bB,aL b1];rfl,k1,by rw[bB,aL b1];rfl,?_⟩
 have L:=Upd.hnew No h1 [.int .u64 0,.int .u64 0,.int .u64 0,.int .u64 0] iH;have b2:=bG h1 [.int .u64 0,.int .u64 0,.int .u64 0,.int .u64 0] iH;simp only[bZ h1];simp only[Bd];refine bq ?_;refine⟨.inr ⟨_,rfl,fun j F=>by rw[bB];exact f6 b2 (by simp at F⊢;omega)⟩,?_⟩
 refine bq ?_;rw[gj _ _ 0 0 _ b2 (by simp)];have b3:=gg (o:=.cells (q4 (cN k0 8317987319222330741,cN k1 7237128888997146477,cN k0 7816392313619706465,cN k1 8387220255154660723)) iH (0,0)) b2;have D:Upd No h _:=t.tr (L.trans (M':=(· =h1.size)) (Upd.set (hnew h1 [.int .u64 0,.int .u64 0,.int .u64 0,.int .u64 0] iH) (.cells (q4 (cN k0 8317987319222330741,cN k1 7237128888997146477,cN k0 7816392313619706465,cN k1 8387220255154660723)) iH (0,0)) rfl) fun b hb=>.inr (Nat.le_of_eq hb.symm))
 refine LoopP.ghost (fun(g:Nat×Q4) (a:ByteArray) h'=>a.size≤g.1∧h'[h1.size]? =some (.cells (q4 g.2) iH (0,0))∧Upd No h h'∧Bt g.1 a g.2=Bt s.size s (cN k0 8317987319222330741,cN k1 7237128888997146477,cN k0 7816392313619706465,cN k1 8387220255154660723)) (fun g=>g.1) (s.size,_)
  ⟨aj _,b3,D,rfl⟩ ?_
 rintro I ⟨n,q⟩ a h' ⟨H,hb,z,k⟩ G;simp only at H hb k;have f:∀b,b=h1.size→No b∨h.size≤b:=fun b hb=>.inr (by omega)
 refine aw (fun p=>?_) fun u=>?_
 ·have p:8≤a.size:=by omega
  cases n with
  |zero=>omega
  |succ n=>
   refine⟨by omega,LM (by rw[eh];show min 8 _-0≤8;omega) (LW hb fun J d e=>⟨by omega,?_⟩)⟩
   have C:((8:Int)).toNat=8:=rfl;rw[C]at d⊢;refine G (n,qo (xu (a.extract 0 8)) q) _ _ ⟨by simp only[eh];omega,d,z.trans e f,?_⟩ (by simp only;omega);rw[←k];simp only[Bt,if_pos p]
 ·have u:a.size<8:=by omega
  have k:(a,q)=Bt s.size s (cN k0 8317987319222330741,cN k1 7237128888997146477,cN k0 7816392313619706465,cN k1 8387220255154660723):=by
   rw[←k];cases n with
   |zero=>rfl
   |succ n=>simp only[Bt,if_neg (show ¬8≤a.size by omega)]
  have c:∀{h:ac} {s:Q4} {i:Nat},h[h1.size]? =some (.cells (q4 s) iH (0,0))→aX h ⟨h1.size,0+i,none⟩=(q4 s)[i]?:=fun hb=>by rw[aA];exact aL hb
  have w:∀{h:ac} {s:Q4} {i:Nat},h[h1.size]? =some (.cells (q4 s) iH (0,0))→i<4→Wr h ⟨h1.size,0+i,none⟩:=fun hb hi=>by rw[aA];exact f6 hb hi
  have y:JG k0 k1 s=RD (qo (Dg (xu a) (RZ (s.size:Int) 56)) q):=by unfold JG;rw[←k];rfl
  rw[y]at B;refine LM (by omega) ⟨by decide,LW (m:=Dg (xu a) (RZ (s.size:Int) 56)) hb fun J d e=>?_⟩
  refine RC d fun A x v=>RE (K:=fun n=>K n A) x ?_
  exact B A ((z.trans e f).trans v f)
structure Hs where
 k0:Int
 k1:Int
 mask:Int
def im(h:Hs)(s:ByteArray):Int:=IL (JG h.k0 h.k1 s) h.mask
theorem GM{x:Hs}{s:ByteArray}{h:ac}{K:Int→ac→Prop}(c:∀h',Upd No h h'→K (im x s) h'):HC PG iQ [.agg #[.int .u64 x.k0,.int .u64 x.k1,.int .u64 x.mask],.string s] [.c (.int .u64)] K h:=by
 refine zJ (x.k0,x.k1,x.mask) s ?_;unfold sC ad bO Cv Tp;have a:=Upd.hnew No h [.int .u64 x.k0,.int .u64 x.k1,.int .u64 x.mask] cq;have b1:=bG h [.int .u64 x.k0,.int .u64 x.k1,.int .u64 x.mask] cq;simp only[At,bZ h];generalize hnew h [.int .u64 x.k0,.int .u64 x.k1,.int .u64 x.mask] cq=h1 at a b1;refine⟨x.k0,by rw[bB,bB,aL b1];rfl,x.k1,by rw[bB,bB,aL b1];rfl,x.mask,by rw[bB,aL b1];rfl,?_⟩
 refine Sr fun d b=>⟨by rw[bB,aL (b.get0 b1)];rfl,c _ (a.tr b)⟩
theorem BG(x:Hs)(s:ByteArray):0≤im x s∧im x s<18446744073709551616:=Av _
end Go.Proofs
namespace Go.Proofs
open Go Go.Lift
abbrev il(x:ByteArray×ByteArray):List Value:= [.string x.1,.string x.2]
theorem iu(x:ByteArray×ByteArray):(il x).length=2∧0<2:=⟨rfl,by omega⟩
theorem wR:∀xs:List (ByteArray×ByteArray),bU (xs.flatMap il)=true
 | []=>rfl
 |x::xs=>by rw[aK];exact lr rfl (wR xs)
theorem Gt{h:ac}{a b o d f e c:Nat}{i cw:Array Value}{g tb:TypeId}(hv:h[a]? =some (.cells i g (0,0))) (hb:h[b]? =some (.cells cw tb (0,0))) (m:a≠b) (n:cw.size≠0) {K:Bool→ac→Prop} (k:K false h):
  HC PG gO [.slice (some ⟨a,0,none⟩) d f,.slice (some ⟨b,o,none⟩) e c] [.c .bool] K h:=by
 refine⟨fun w j=>.inr ⟨.bool false,w,?_,Tame.refl w,false,rfl,j▸k⟩⟩
 subst j;rw[qR];have:=Lib.run_overlaps_apart (P:=PG) w jU vD ar (by kernel_rfl) (bQ PG ar) (pC (by kernel_rfl)) ⟨a,0,none⟩ ⟨b,o,none⟩ d f e c m g tb i.size cw.size
  (by simp[World.shape?,hv]) (by simp[World.shape?,hb]) n (by simp[World.frozen?,hv]) (by simp[World.frozen?,hv])
 rw[show([Value.slice (some ⟨a,0,none⟩) d f,Value.slice (some ⟨b,o,none⟩) e c]:List Value).toArray= #[.slice (some ⟨a,0,none⟩) d f,.slice (some ⟨b,o,none⟩) e c]from rfl,this]
 rfl
set_option maxRecDepth 4000 in
theorem KI{M:Nat→Prop}{h:ac}{s:SliceV}{xs:List (ByteArray×ByteArray)}(Q:OwnS il 2 ar M h s xs){k:Nat}(U:k≤xs.length)(hn:(xs.length+1)*32≤140737488355328){x:ByteArray×ByteArray}{m:Nat}(hv:h[m]? =some (.cells (il x).toArray ar (0,0)))
  (hvM:¬M m) (hM:∀b,h.size≤b→M b) {K:SliceV→ac→Prop} (hK:∀s' h',OwnS il 2 ar M h' s' (xs.take k++x::xs.drop k)→Upd M h h'→K s' h'):
  HC PG cB [.slice s.a s.len s.cap,.int .i64 k,.slice (some ⟨m,0,none⟩) 1 1] [.c .slice] K h:=by
 refine lB s k ⟨some ⟨m,0,none⟩,1,1⟩ ?_;unfold gn qT;have n:=Q.len;have hcap:=Q.cap;have O:SRow h (some ⟨m,0,none⟩) (1*2) (il x):=⟨rfl,.inr ⟨_,rfl,np hv fun i v hi=>by simpa using hi⟩⟩
 refine⟨by omega,ah.2 ?_⟩;refine CondP.intro (fun e=>?_) fun e=>?_
 ·have e:k=xs.length:=by have:=of_decide_eq_true (by simpa using e:decide ((k:Int)=(s.len:Int))=true);omega
  subst e;refine⟨_,O,AppP.own (ys:= [x]) Q rfl (by simp) rfl rfl (by omega) (by simp;omega) (hM _ (aj _)) fun s' h' ho hu=>hK s' h' ?_ hu⟩
  rw[ba,o8];exact ho
 have hlt:k<xs.length:=by
  rcases bV k xs.length with h|h
  ·exact h
  ·have:((k:Int)==(s.len:Int))=true:=by rw[beq_iff_eq];omega
   rw[this]at e;cases e
 rcases Q.blk with h0|⟨b,g,ha,hb,hc,hr⟩
 ·omega
 have d:((xs.take k).flatMap il).length=k*2:=by rw[ko iu,aJ,bf U]
 have t:((xs.drop k).flatMap il).length=(xs.length-k)*2:=by rw[ko iu,aI]
 have N:m≠b:=fun e=>hvM (e▸hb)
 rw[yq (f:=il) xs k]at hc;have a:(xs.take k++x::xs.drop k).flatMap il=(xs.take k).flatMap il++(il x++(xs.drop k).flatMap il):=by rw[bA,aK]
 have j:=wR (xs.drop k);have c:(il x).length=2:=rfl;have z:bU (il x)=true:=rfl;generalize hAe:(xs.take k).flatMap il=A at d hc a;generalize hBe:(xs.drop k).flatMap il=B at t hc a j;generalize il x=X at O c hv a z;rw[ha];have w1:IntKind.wrap .i64 ((xs.length:Int)+((1:Nat):Int))=((xs.length+1:Nat):Int):=by rw[kE (by omega)];omega
 have w2:IntKind.wrap .i64 ((k:Int)+((1:Nat):Int))=((k+1:Nat):Int):=by rw[kE (by omega)];omega
 have w3:IntKind.wrap .i64 (((xs.length+1:Nat):Int)-(k:Int))=((xs.length+1-k:Nat):Int):=by rw[kE (by omega)];omega
 simp only[w1,w2,w3,aF,n];refine aw (fun hgt=>?_) fun hle=>?_
 ·
  have H:s.cap=xs.length:=by omega
  refine Join.plain ⟨by omega,⟨by omega,by omega,by omega,by omega⟩,fun hin=>?_,fun E=>?_⟩
  ·omega
  ·refine⟨A,_,?_,rfl,by omega,Go.growslice_fits E (by omega),fun C y=>?_⟩
   ·rw[sub_zero]
    exact kK hc (by rw[d];omega) (by simp only[dE,eT];rw[ao,←d,eF (aj _),ba])
   ·simp only[aF]at y⊢
    have S:=Upd.hnew No h (A++c8 (xs.length+1-k) [.string (⟨#[]⟩:ByteArray),.string (⟨#[]⟩:ByteArray)]++c8 (C-(k-0+(xs.length+1-k))) [.string (⟨#[]⟩:ByteArray),.string (⟨#[]⟩:ByteArray)]) ar;have bn:=bG h (A++c8 (xs.length+1-k) [.string (⟨#[]⟩:ByteArray),.string (⟨#[]⟩:ByteArray)]++c8 (C-(k-0+(xs.length+1-k))) [.string (⟨#[]⟩:ByteArray),.string (⟨#[]⟩:ByteArray)]) ar
    have u:(c8 (xs.length+1-k) [.string (⟨#[]⟩:ByteArray),.string (⟨#[]⟩:ByteArray)]).length=(xs.length+1-k)*2:=jG _ _;have hz2:(c8 (C-(k-0+(xs.length+1-k))) [.string (⟨#[]⟩:ByteArray),.string (⟨#[]⟩:ByteArray)]).length=(C-(k-0+(xs.length+1-k)))*2:=jG _ _;have o:k-0+(xs.length+1-k)=xs.length+1:=by omega
    rw[bZ];have hsz:h.size≠m:=fun e=>by have:=bF hv;omega
    have J:h.size≠b:=fun e=>by have:=bF hc;omega
    have P:=S.get0 hc;have D:=S.get0 hv;generalize hnew h _ ar=h9 at S bn P D;rw[o]at y hz2⊢;have m1:dy 1 (xs.length+1-k)=1:=bf (by omega);have T:dy (xs.length-k) (xs.length+1-(k+1))=xs.length-k:=bf (by omega);rw[m1];have V:SRow h9 (some ⟨m,0,none⟩) (1*2) X:=kK D (by rw[c]) (by rw[dE,bh];rw[c];omega)
    refine⟨by omega,?_⟩;rw[i9 (by omega)];refine jJ V z bn (by simp only[ae,d,u];omega) fun h11 I p=>⟨by omega,?_⟩
    simp only[Bd];rw[i9 (by omega),i9 (by omega),T];refine⟨by omega,?_⟩;have w:=p.get P (fun e=>J e.symm)
    have br:SRow h11 (some ⟨b,0+k*2,none⟩) ((xs.length-k)*2) B:=kK w t (by
     rw[aA,ao,←d,ji,←t,lf])
    refine jJ br j I ?_ fun h16 G F=>?_
    ·simp only[ae,aJ,aI,d,u,c];omega
    ·refine hK _ _ ⟨by simp;omega,iu,y,.inr ⟨h.size,c8 (C-(xs.length+1)) [.string (⟨#[]⟩:ByteArray),.string (⟨#[]⟩:ByteArray)],rfl,hM _ (aj _),?_,by rw[jG];rfl⟩⟩ ((S.wide.trans (M':=(· =h.size)) p fun b hb=>.inl (hb▸hM _ (aj _))).trans (M':=(· =h.size)) F fun b hb=>.inl (hb▸hM _ (aj _)))
     rw[G,a];have:=GG (A:=A) (X:=X) (B:=B) (Z1:=c8 (xs.length+1-k) [.string (⟨#[]⟩:ByteArray),.string (⟨#[]⟩:ByteArray)]) (Z2:=c8 (C-(xs.length+1)) [.string (⟨#[]⟩:ByteArray),.string (⟨#[]⟩:ByteArray)]) (r:=(xs.length-k)*2) d c (by rw[u,←fG];congr 1;omega);rw[o,←this];simp only[aA,fG,pY]
 ·have H:xs.length+1≤s.cap:=by omega
  refine⟨by omega,?_⟩;simp only[Bd,eT];rw[sub_zero,i9 (show s.cap≠k+1 by omega),i9 (show s.cap≠k by omega)]
  refine⟨by omega,?_⟩;have Z:2≤g.length:=by rw[hr];exact nZ _ (by omega)
  refine Gt hv hc N (by rw[cP,ae];omega) ?_;refine ay.2 ⟨by omega,by omega,?_⟩
  have m1:dy 1 (xs.length+1-k)=1:=bf (by omega);have T:dy (xs.length+1-k) (xs.length+1-(k+1))=xs.length-k:=by
   rw[show xs.length+1-(k+1)=xs.length-k by omega];exact oZ (by omega)
  rw[T];have br:SRow h (some ⟨b,0+k*2,none⟩) ((xs.length-k)*2) B:=kK hc t (by
   rw[aA,ao,←d,ji,←t,lf])
  refine jJ br j hc (by simp only[ae,d,t];omega) fun h1 hb1 L=>⟨by omega,?_⟩
  rw[m1];have Y:SRow h1 (some ⟨m,0,none⟩) (1*2) X:=kK (L.get hv N) (by rw[c]) (by rw[dE,bh];rw[c];omega);refine jJ Y z hb1 (by simp only[ae,aJ,aI,d,t];omega) fun h2 hb2 W=>?_
  refine hK _ _ ⟨by simp;omega,iu,H,.inr ⟨b,g.drop 2,rfl,hb,?_,?_⟩⟩ ((L.mono fun _ e=>.inl (e▸hb)).tr (W.mono fun _ e=>.inl (e▸hb)))
  ·rw[hb2,a]
   have:=KK (A:=A) (X:=X) (B:=B) (R:=g) (q:=2) (r:=(xs.length-k)*2) d t Z;rw[←this];simp only[aA,fG,pY]
  ·rw[aI,hr]
   simp only;rw[n];omega
abbrev qL(x:Option Addr):List Value:= [.pointer x]
theorem q9(x:Option Addr):(qL x).length=1∧0<1:=⟨rfl,by omega⟩
theorem Cw:∀xs:List (Option Addr),bU (xs.flatMap qL)=true
 | []=>rfl
 |x::xs=>by rw[aK];exact lr rfl (Cw xs)
theorem Gu{h:ac}{a b o d f e c:Nat}{i cw:Array Value}{g tb:TypeId}(hv:h[a]? =some (.cells i g (0,0))) (hb:h[b]? =some (.cells cw tb (0,0))) (m:a≠b) (n:cw.size≠0) {K:Bool→ac→Prop} (k:K false h):
  HC PG f9 [.slice (some ⟨a,0,none⟩) d f,.slice (some ⟨b,o,none⟩) e c] [.c .bool] K h:=by
 refine⟨fun w j=>.inr ⟨.bool false,w,?_,Tame.refl w,false,rfl,j▸k⟩⟩
 subst j;rw[pN];have:=Lib.run_overlaps_apart (P:=PG) w p8 vD bH (by kernel_rfl) (bQ PG bH) (pC (by kernel_rfl)) ⟨a,0,none⟩ ⟨b,o,none⟩ d f e c m g tb i.size cw.size
  (by simp[World.shape?,hv]) (by simp[World.shape?,hb]) n (by simp[World.frozen?,hv]) (by simp[World.frozen?,hv])
 rw[show([Value.slice (some ⟨a,0,none⟩) d f,Value.slice (some ⟨b,o,none⟩) e c]:List Value).toArray= #[.slice (some ⟨a,0,none⟩) d f,.slice (some ⟨b,o,none⟩) e c]from rfl,this]
 rfl
set_option maxRecDepth 4000 in
theorem KJ{M:Nat→Prop}{h:ac}{s:SliceV}{xs:List (Option Addr)}(Q:OwnS qL 1 bH M h s xs){k:Nat}(U:k≤xs.length)(hn:(xs.length+1)*8≤140737488355328){x:Option Addr}{m:Nat}(hv:h[m]? =some (.cells (qL x).toArray bH (0,0)))
  (hvM:¬M m) (hM:∀b,h.size≤b→M b) {K:SliceV→ac→Prop} (hK:∀s' h',OwnS qL 1 bH M h' s' (xs.take k++x::xs.drop k)→Upd M h h'→K s' h'):
  HC PG cj [.slice s.a s.len s.cap,.int .i64 k,.slice (some ⟨m,0,none⟩) 1 1] [.c .slice] K h:=by
 refine jL s k ⟨some ⟨m,0,none⟩,1,1⟩ ?_;unfold fE;have n:=Q.len;have hcap:=Q.cap;have O:SRow h (some ⟨m,0,none⟩) (1*1) (qL x):=⟨rfl,.inr ⟨_,rfl,np hv fun i v hi=>by simpa using hi⟩⟩
 refine⟨by omega,ah.2 ?_⟩;refine CondP.intro (fun e=>?_) fun e=>?_
 ·have e:k=xs.length:=by have:=of_decide_eq_true (by simpa using e:decide ((k:Int)=(s.len:Int))=true);omega
  subst e;refine⟨_,O,AppP.own (ys:= [x]) Q rfl (by simp) rfl rfl (by omega) (by simp;omega) (hM _ (aj _)) fun s' h' ho hu=>hK s' h' ?_ hu⟩
  rw[ba,o8];exact ho
 have hlt:k<xs.length:=by
  rcases bV k xs.length with h|h
  ·exact h
  ·have:((k:Int)==(s.len:Int))=true:=by rw[beq_iff_eq];omega
   rw[this]at e;cases e
 rcases Q.blk with h0|⟨b,g,ha,hb,hc,hr⟩
 ·omega
 have d:((xs.take k).flatMap qL).length=k*1:=by rw[ko q9,aJ,bf U]
 have t:((xs.drop k).flatMap qL).length=(xs.length-k)*1:=by rw[ko q9,aI]
 have N:m≠b:=fun e=>hvM (e▸hb)
 rw[yq (f:=qL) xs k]at hc;have a:(xs.take k++x::xs.drop k).flatMap qL=(xs.take k).flatMap qL++(qL x++(xs.drop k).flatMap qL):=by rw[bA,aK]
 have j:=Cw (xs.drop k);have c:(qL x).length=1:=rfl;have z:bU (qL x)=true:=rfl;generalize hAe:(xs.take k).flatMap qL=A at d hc a;generalize hBe:(xs.drop k).flatMap qL=B at t hc a j;generalize qL x=X at O c hv a z;rw[ha];have w1:IntKind.wrap .i64 ((xs.length:Int)+((1:Nat):Int))=((xs.length+1:Nat):Int):=by rw[kE (by omega)];omega
 have w2:IntKind.wrap .i64 ((k:Int)+((1:Nat):Int))=((k+1:Nat):Int):=by rw[kE (by omega)];omega
 have w3:IntKind.wrap .i64 (((xs.length+1:Nat):Int)-(k:Int))=((xs.length+1-k:Nat):Int):=by rw[kE (by omega)];omega
 simp only[w1,w2,w3,aF,n];refine aw (fun hgt=>?_) fun hle=>?_
 ·
  have H:s.cap=xs.length:=by omega
  refine Join.plain ⟨by omega,⟨by omega,by omega,by omega,by omega⟩,fun hin=>?_,fun E=>?_⟩
  ·omega
  ·refine⟨A,_,?_,rfl,by omega,Go.growslice_fits E (by omega),fun C y=>?_⟩
   ·rw[sub_zero]
    exact kK hc (by rw[d];omega) (by simp only[dE,eT];rw[ao,←d,eF (aj _),ba])
   ·simp only[aF]at y⊢
    have S:=Upd.hnew No h (A++c8 (xs.length+1-k) [.pointer none]++c8 (C-(k-0+(xs.length+1-k))) [.pointer none]) bH;have bn:=bG h (A++c8 (xs.length+1-k) [.pointer none]++c8 (C-(k-0+(xs.length+1-k))) [.pointer none]) bH;have u:(c8 (xs.length+1-k) [.pointer none]).length=(xs.length+1-k)*1:=jG _ _;have hz2:(c8 (C-(k-0+(xs.length+1-k))) [.pointer none]).length=(C-(k-0+(xs.length+1-k)))*1:=jG _ _
    have o:k-0+(xs.length+1-k)=xs.length+1:=by omega
    rw[bZ];have hsz:h.size≠m:=fun e=>by have:=bF hv;omega
    have J:h.size≠b:=fun e=>by have:=bF hc;omega
    have P:=S.get0 hc;have D:=S.get0 hv;generalize hnew h _ bH=h9 at S bn P D;rw[o]at y hz2⊢;have m1:dy 1 (xs.length+1-k)=1:=bf (by omega);have T:dy (xs.length-k) (xs.length+1-(k+1))=xs.length-k:=bf (by omega);rw[m1];have V:SRow h9 (some ⟨m,0,none⟩) (1*1) X:=kK D (by rw[c]) (by rw[dE,bh];rw[c];omega)
    refine⟨by omega,?_⟩;rw[i9 (by omega)];refine jJ V z bn (by simp only[ae,d,u];omega) fun h11 I p=>⟨by omega,?_⟩
    simp only[Bd];rw[i9 (by omega),i9 (by omega),T];refine⟨by omega,?_⟩;have w:=p.get P (fun e=>J e.symm)
    have br:SRow h11 (some ⟨b,0+k*1,none⟩) ((xs.length-k)*1) B:=kK w t (by
     rw[aA,ao,←d,ji,←t,lf])
    refine jJ br j I ?_ fun h16 G F=>?_
    ·simp only[ae,aJ,aI,d,u,c];omega
    ·refine hK _ _ ⟨by simp;omega,q9,y,.inr ⟨h.size,c8 (C-(xs.length+1)) [.pointer none],rfl,hM _ (aj _),?_,by rw[jG];rfl⟩⟩ ((S.wide.trans (M':=(· =h.size)) p fun b hb=>.inl (hb▸hM _ (aj _))).trans (M':=(· =h.size)) F fun b hb=>.inl (hb▸hM _ (aj _)))
     rw[G,a];have:=GG (A:=A) (X:=X) (B:=B) (Z1:=c8 (xs.length+1-k) [.pointer none]) (Z2:=c8 (C-(xs.length+1)) [.pointer none]) (r:=(xs.length-k)*1) d c (by rw[u,←fG];congr 1;omega);rw[o,←this];simp only[aA,fG,pY]
 ·have H:xs.length+1≤s.cap:=by omega
  refine⟨by omega,?_⟩;simp only[Bd,eT];rw[sub_zero,i9 (show s.cap≠k+1 by omega),i9 (show s.cap≠k by omega)]
  refine⟨by omega,?_⟩;have Z:1≤g.length:=by rw[hr];exact nZ _ (by omega)
  refine Gu hv hc N (by rw[cP,ae];omega) ?_;refine ay.2 ⟨by omega,by omega,?_⟩
  have m1:dy 1 (xs.length+1-k)=1:=bf (by omega);have T:dy (xs.length+1-k) (xs.length+1-(k+1))=xs.length-k:=by
   rw[show xs.length+1-(k+1)=xs.length-k by omega];exact oZ (by omega)
  rw[T];have br:SRow h (some ⟨b,0+k*1,none⟩) ((xs.length-k)*1) B:=kK hc t (by
   rw[aA,ao,←d,ji,←t,lf])
  refine jJ br j hc (by simp only[ae,d,t];omega) fun h1 hb1 L=>⟨by omega,?_⟩
  rw[m1];have Y:SRow h1 (some ⟨m,0,none⟩) (1*1) X:=kK (L.get hv N) (by rw[c]) (by rw[dE,bh];rw[c];omega);refine jJ Y z hb1 (by simp only[ae,aJ,aI,d,t];omega) fun h2 hb2 W=>?_
  refine hK _ _ ⟨by simp;omega,q9,H,.inr ⟨b,g.drop 1,rfl,hb,?_,?_⟩⟩ ((L.mono fun _ e=>.inl (e▸hb)).tr (W.mono fun _ e=>.inl (e▸hb)))
  ·rw[hb2,a]
   have:=KK (A:=A) (X:=X) (B:=B) (R:=g) (q:=1) (r:=(xs.length-k)*1) d t Z;rw[←this];simp only[aA,fG,pY]
  ·rw[aI,hr]
   simp only;rw[n];omega
abbrev xB(x:Option Addr):List Value:= [.pointer x]
theorem p9(x:Option Addr):(xB x).length=1∧0<1:=⟨rfl,by omega⟩
theorem Gv:∀xs:List (Option Addr),bU (xs.flatMap xB)=true
 | []=>rfl
 |x::xs=>by rw[aK];exact lr rfl (Gv xs)
theorem Gs{h:ac}{a b o d f e c:Nat}{i cw:Array Value}{g tb:TypeId}(hv:h[a]? =some (.cells i g (0,0))) (hb:h[b]? =some (.cells cw tb (0,0))) (m:a≠b) (n:cw.size≠0) {K:Bool→ac→Prop} (k:K false h):
  HC PG fT [.slice (some ⟨a,0,none⟩) d f,.slice (some ⟨b,o,none⟩) e c] [.c .bool] K h:=by
 refine⟨fun w j=>.inr ⟨.bool false,w,?_,Tame.refl w,false,rfl,j▸k⟩⟩
 subst j;rw[oT];have:=Lib.run_overlaps_apart (P:=PG) w oD vD bJ (by kernel_rfl) (bQ PG bJ) (pC (by kernel_rfl)) ⟨a,0,none⟩ ⟨b,o,none⟩ d f e c m g tb i.size cw.size
  (by simp[World.shape?,hv]) (by simp[World.shape?,hb]) n (by simp[World.frozen?,hv]) (by simp[World.frozen?,hv])
 rw[show([Value.slice (some ⟨a,0,none⟩) d f,Value.slice (some ⟨b,o,none⟩) e c]:List Value).toArray= #[.slice (some ⟨a,0,none⟩) d f,.slice (some ⟨b,o,none⟩) e c]from rfl,this]
 rfl
set_option maxRecDepth 4000 in
theorem KH{M:Nat→Prop}{h:ac}{s:SliceV}{xs:List (Option Addr)}(Q:OwnS xB 1 bJ M h s xs){k:Nat}(U:k≤xs.length)(hn:(xs.length+1)*8≤140737488355328){x:Option Addr}{m:Nat}(hv:h[m]? =some (.cells (xB x).toArray bJ (0,0)))
  (hvM:¬M m) (hM:∀b,h.size≤b→M b) {K:SliceV→ac→Prop} (hK:∀s' h',OwnS xB 1 bJ M h' s' (xs.take k++x::xs.drop k)→Upd M h h'→K s' h'):
  HC PG dG [.slice s.a s.len s.cap,.int .i64 k,.slice (some ⟨m,0,none⟩) 1 1] [.c .slice] K h:=by
 refine jk s k ⟨some ⟨m,0,none⟩,1,1⟩ ?_;unfold fk;have n:=Q.len;have hcap:=Q.cap;have O:SRow h (some ⟨m,0,none⟩) (1*1) (xB x):=⟨rfl,.inr ⟨_,rfl,np hv fun i v hi=>by simpa using hi⟩⟩
 refine⟨by omega,ah.2 ?_⟩;refine CondP.intro (fun e=>?_) fun e=>?_
 ·have e:k=xs.length:=by have:=of_decide_eq_true (by simpa using e:decide ((k:Int)=(s.len:Int))=true);omega
  subst e;refine⟨_,O,AppP.own (ys:= [x]) Q rfl (by simp) rfl rfl (by omega) (by simp;omega) (hM _ (aj _)) fun s' h' ho hu=>hK s' h' ?_ hu⟩
  rw[ba,o8];exact ho
 have hlt:k<xs.length:=by
  rcases bV k xs.length with h|h
  ·exact h
  ·have:((k:Int)==(s.len:Int))=true:=by rw[beq_iff_eq];omega
   rw[this]at e;cases e
 rcases Q.blk with h0|⟨b,g,ha,hb,hc,hr⟩
 ·omega
 have d:((xs.take k).flatMap xB).length=k*1:=by rw[ko p9,aJ,bf U]
 have t:((xs.drop k).flatMap xB).length=(xs.length-k)*1:=by rw[ko p9,aI]
 have N:m≠b:=fun e=>hvM (e▸hb)
 rw[yq (f:=xB) xs k]at hc;have a:(xs.take k++x::xs.drop k).flatMap xB=(xs.take k).flatMap xB++(xB x++(xs.drop k).flatMap xB):=by rw[bA,aK]
 have j:=Gv (xs.drop k);have c:(xB x).length=1:=rfl;have z:bU (xB x)=true:=rfl;generalize hAe:(xs.take k).flatMap xB=A at d hc a;generalize hBe:(xs.drop k).flatMap xB=B at t hc a j;generalize xB x=X at O c hv a z;rw[ha];have w1:IntKind.wrap .i64 ((xs.length:Int)+((1:Nat):Int))=((xs.length+1:Nat):Int):=by rw[kE (by omega)];omega
 have w2:IntKind.wrap .i64 ((k:Int)+((1:Nat):Int))=((k+1:Nat):Int):=by rw[kE (by omega)];omega
 have w3:IntKind.wrap .i64 (((xs.length+1:Nat):Int)-(k:Int))=((xs.length+1-k:Nat):Int):=by rw[kE (by omega)];omega
 simp only[w1,w2,w3,aF,n];refine aw (fun hgt=>?_) fun hle=>?_
 ·
  have H:s.cap=xs.length:=by omega
  refine Join.plain ⟨by omega,⟨by omega,by omega,by omega,by omega⟩,fun hin=>?_,fun E=>?_⟩
  ·omega
  ·refine⟨A,_,?_,rfl,by omega,Go.growslice_fits E (by omega),fun C y=>?_⟩
   ·rw[sub_zero]
    exact kK hc (by rw[d];omega) (by simp only[dE,eT];rw[ao,←d,eF (aj _),ba])
   ·simp only[aF]at y⊢
    have S:=Upd.hnew No h (A++c8 (xs.length+1-k) [.pointer none]++c8 (C-(k-0+(xs.length+1-k))) [.pointer none]) bJ;have bn:=bG h (A++c8 (xs.length+1-k) [.pointer none]++c8 (C-(k-0+(xs.length+1-k))) [.pointer none]) bJ;have u:(c8 (xs.length+1-k) [.pointer none]).length=(xs.length+1-k)*1:=jG _ _;have hz2:(c8 (C-(k-0+(xs.length+1-k))) [.pointer none]).length=(C-(k-0+(xs.length+1-k)))*1:=jG _ _
    have o:k-0+(xs.length+1-k)=xs.length+1:=by omega
    rw[bZ];have hsz:h.size≠m:=fun e=>by have:=bF hv;omega
    have J:h.size≠b:=fun e=>by have:=bF hc;omega
    have P:=S.get0 hc;have D:=S.get0 hv;generalize hnew h _ bJ=h9 at S bn P D;rw[o]at y hz2⊢;have m1:dy 1 (xs.length+1-k)=1:=bf (by omega);have T:dy (xs.length-k) (xs.length+1-(k+1))=xs.length-k:=bf (by omega);rw[m1];have V:SRow h9 (some ⟨m,0,none⟩) (1*1) X:=kK D (by rw[c]) (by rw[dE,bh];rw[c];omega)
    refine⟨by omega,?_⟩;rw[i9 (by omega)];refine jJ V z bn (by simp only[ae,d,u];omega) fun h11 I p=>⟨by omega,?_⟩
    simp only[Bd];rw[i9 (by omega),i9 (by omega),T];refine⟨by omega,?_⟩;have w:=p.get P (fun e=>J e.symm)
    have br:SRow h11 (some ⟨b,0+k*1,none⟩) ((xs.length-k)*1) B:=kK w t (by
     rw[aA,ao,←d,ji,←t,lf])
    refine jJ br j I ?_ fun h16 G F=>?_
    ·simp only[ae,aJ,aI,d,u,c];omega
    ·refine hK _ _ ⟨by simp;omega,p9,y,.inr ⟨h.size,c8 (C-(xs.length+1)) [.pointer none],rfl,hM _ (aj _),?_,by rw[jG];rfl⟩⟩ ((S.wide.trans (M':=(· =h.size)) p fun b hb=>.inl (hb▸hM _ (aj _))).trans (M':=(· =h.size)) F fun b hb=>.inl (hb▸hM _ (aj _)))
     rw[G,a];have:=GG (A:=A) (X:=X) (B:=B) (Z1:=c8 (xs.length+1-k) [.pointer none]) (Z2:=c8 (C-(xs.length+1)) [.pointer none]) (r:=(xs.length-k)*1) d c (by rw[u,←fG];congr 1;omega);rw[o,←this];simp only[aA,fG,pY]
 ·have H:xs.length+1≤s.cap:=by omega
  refine⟨by omega,?_⟩;simp only[Bd,eT];rw[sub_zero,i9 (show s.cap≠k+1 by omega),i9 (show s.cap≠k by omega)]
  refine⟨by omega,?_⟩;have Z:1≤g.length:=by rw[hr];exact nZ _ (by omega)
  refine Gs hv hc N (by rw[cP,ae];omega) ?_;refine ay.2 ⟨by omega,by omega,?_⟩
  have m1:dy 1 (xs.length+1-k)=1:=bf (by omega);have T:dy (xs.length+1-k) (xs.length+1-(k+1))=xs.length-k:=by
   rw[show xs.length+1-(k+1)=xs.length-k by omega];exact oZ (by omega)
  rw[T];have br:SRow h (some ⟨b,0+k*1,none⟩) ((xs.length-k)*1) B:=kK hc t (by
   rw[aA,ao,←d,ji,←t,lf])
  refine jJ br j hc (by simp only[ae,d,t];omega) fun h1 hb1 L=>⟨by omega,?_⟩
  rw[m1];have Y:SRow h1 (some ⟨m,0,none⟩) (1*1) X:=kK (L.get hv N) (by rw[c]) (by rw[dE,bh];rw[c];omega);refine jJ Y z hb1 (by simp only[ae,aJ,aI,d,t];omega) fun h2 hb2 W=>?_
  refine hK _ _ ⟨by simp;omega,p9,H,.inr ⟨b,g.drop 1,rfl,hb,?_,?_⟩⟩ ((L.mono fun _ e=>.inl (e▸hb)).tr (W.mono fun _ e=>.inl (e▸hb)))
  ·rw[hb2,a]
   have:=KK (A:=A) (X:=X) (B:=B) (R:=g) (q:=1) (r:=(xs.length-k)*1) d t Z;rw[←this];simp only[aA,fG,pY]
  ·rw[aI,hr]
   simp only;rw[n];omega
end Go.Proofs
namespace Go.Proofs
open Go Go.Lift
theorem A0{W:Nat→Prop}{h:ac}{s:SliceV}{xs:List (ByteArray×ByteArray)}(d:Sl il 2 W h s xs)(i:xs.length*32≤140737488355328){K:SliceV→ac→Prop}
  (e:∀s' h',OwnS il 2 ar (fun b=>h.size≤b) h' s' xs→Upd No h h'→K s' h'):HC PG dw [.slice s.a s.len s.cap] [.c .slice] K h:=by
 refine lU s ?_;unfold gL qT;refine CondP.intro (fun c=>?_) (fun n=>?_)
 ·have c:s.a=none:=by simpa using c
  have hx:xs= []:=by
   by_cases hx:xs= []
   ·exact hx
   ·obtain⟨a,g,_⟩:=d.row hx
    rw[c]at g;cases g
  subst hx;exact e _ _ (OwnS.nil iu) (Upd.refl _ _)
 ·have j:=d.upd (Upd.hnew No h [] ar) (fun _ h=>h.elim)
  refine⟨_,j.srow,?_⟩;refine AppP.own (f:=il) (M:=fun b=>h.size≤b) (xs:= []) (ys:=xs) ⟨rfl,iu,aj _,.inl rfl⟩ d.len rfl (wR xs) rfl (by omega) (by simpa using i) (by rw[eI];omega) fun s' h' k m=>?_
  exact e _ _ k ((Upd.hnew No h [] ar).trans m fun b hb=>.inr hb)
theorem KZ{M:Nat→Prop}{h:ac}{s:SliceV}{xs:List (ByteArray×ByteArray)}(u:OwnS il 2 ar M h s xs){k:Nat}(q:k<xs.length)(N:xs.length≤4398046511104)
  {K:SliceV→ac→Prop}(J:∀s' h',OwnS il 2 ar M h' s' (xs.take k++xs.drop (k+1))→Upd M h h'→K s' h'):
  HC PG d9 [.slice s.a s.len s.cap,.int .i64 k,.int .i64 ((k+1:Nat):Int)] [.c .slice] K h:=by
 refine lC s k ((k+1:Nat):Int) ?_;unfold gq qT;have d:=u.len;have z:=u.cap;rcases u.blk with L|⟨b,a,E,hb,hc,F⟩
 ·omega
 have p:((xs.take k).flatMap il).length=k*2:=by rw[ko iu,aJ,bf (by omega)]
 have m:((xs.drop (k+1)).flatMap il).length=(xs.length-(k+1))*2:=by rw[ko iu,aI]
 have G:xs.flatMap il=(xs.take k).flatMap il++(il xs[k]++(xs.drop (k+1)).flatMap il):=by
  rw[←aK,←eA q];exact yq xs k
 rw[G]at hc;have f:=wR (xs.drop (k+1));have c:(xs.take k++xs.drop (k+1)).flatMap il=(xs.take k).flatMap il++(xs.drop (k+1)).flatMap il:=bA;have I:(il xs[k]).length=2:=rfl;generalize (xs.take k).flatMap il=A at p hc c;generalize (xs.drop (k+1)).flatMap il=B at m hc f c;generalize il xs[k]=X at I hc;rw[E];simp only[d,aF];refine⟨by omega,by omega,by omega,CondP.intro (fun e=>?_) fun _=>?_⟩
 ·have:(k:Int)=((k+1:Nat):Int):=by simpa using e
  omega
 refine Join.plain ⟨by omega,by omega,B,?_,?_⟩
 ·by_cases j:xs.length=k+1
  ·exact⟨m,.inl (co.1 (by rw[m,j,nX,uT]))⟩
  rw[i9 (by omega)];refine kK hc m ?_;have:(A++X).length=0+(k+1)*2:=by rw[ae];omega
  rw[show A++(X++B)++a=(A++X)++(B++a) by simp only[ao],cn this,cX m]
 ·rw[sub_zero]
  refine PY hc (by simp only[ae];omega) (by omega) f fun P g w=>?_
  have y:a.length=(s.cap-xs.length)*2:=by rw[F,d]
  refine⟨by dsimp only;omega,by dsimp only;omega,?_⟩
  simp only[Bd];rw[i9 (by omega)];have H:xs.length-(k-0+(xs.length-(k+1)))=1:=by omega
  have x:(A++(X++B)++a).drop ((k-0)*2+B.length)=(X++B).drop B.length++a:=by
   rw[ao,←cS,cn (show A.length=(k-0)*2 by rw[p,eT]),gc (by rw[ae];omega)]
  have v:(A++(X++B)++a).take ((k-0)*2)=A:=by rw[ao,cX (show A.length=(k-0)*2 by rw[p,eT])]
  rw[x,v]at g;have o:((X++B).drop B.length).length=2:=by rw[aI,ae];omega
  generalize (X++B).drop B.length=D at o g;rw[H];have C:(c8 1 [.string (⟨#[]⟩:ByteArray),.string (⟨#[]⟩:ByteArray)]).length=2:=rfl;have i:(A++B).length=0+(k-0+(xs.length-(k+1)))*2:=by rw[ae,p,m];omega
  refine Gp g (by simp only[ae]at i⊢;omega) fun O n t=>?_
  rw[cX i,←cS,cn i]at n;refine J _ _ ⟨by simp;omega,iu,by simp only;omega,.inr ⟨b,c8 1 [.string (⟨#[]⟩:ByteArray),.string (⟨#[]⟩:ByteArray)]++(D++a).drop (c8 1 [.string (⟨#[]⟩:ByteArray),.string (⟨#[]⟩:ByteArray)]).length,rfl,hb,?_,?_⟩⟩ ((w.mono fun _ e=>.inl (e▸hb)).tr (t.mono fun _ e=>.inl (e▸hb)))
  ·rw[n,c];simp only[ao]
  ·simp only[ae,aI,C,o,y]
   omega
theorem A1{W:Nat→Prop}{h:ac}{s:SliceV}{xs:List (Option Addr)}(d:Sl qL 1 W h s xs)(i:xs.length*8≤140737488355328){K:SliceV→ac→Prop}
  (e:∀s' h',OwnS qL 1 bH (fun b=>h.size≤b) h' s' xs→Upd No h h'→K s' h'):HC PG cU [.slice s.a s.len s.cap] [.c .slice] K h:=by
 refine j3 s ?_;unfold fQ;refine CondP.intro (fun c=>?_) (fun n=>?_)
 ·have c:s.a=none:=by simpa using c
  have hx:xs= []:=by
   by_cases hx:xs= []
   ·exact hx
   ·obtain⟨a,g,_⟩:=d.row hx
    rw[c]at g;cases g
  subst hx;exact e _ _ (OwnS.nil q9) (Upd.refl _ _)
 ·have j:=d.upd (Upd.hnew No h [] bH) (fun _ h=>h.elim)
  refine⟨_,j.srow,?_⟩;refine AppP.own (f:=qL) (M:=fun b=>h.size≤b) (xs:= []) (ys:=xs) ⟨rfl,q9,aj _,.inl rfl⟩ d.len rfl (Cw xs) rfl (by omega) (by simpa using i) (by rw[eI];omega) fun s' h' k m=>?_
  exact e _ _ k ((Upd.hnew No h [] bH).trans m fun b hb=>.inr hb)
theorem K2{M:Nat→Prop}{h:ac}{s:SliceV}{xs:List (Option Addr)}(u:OwnS qL 1 bH M h s xs){k:Nat}(q:k<xs.length)(N:xs.length≤4398046511104)
  {K:SliceV→ac→Prop}(J:∀s' h',OwnS qL 1 bH M h' s' (xs.take k++xs.drop (k+1))→Upd M h h'→K s' h'):
  HC PG dK [.slice s.a s.len s.cap,.int .i64 k,.int .i64 ((k+1:Nat):Int)] [.c .slice] K h:=by
 refine jN s k ((k+1:Nat):Int) ?_;unfold fF;have d:=u.len;have z:=u.cap;rcases u.blk with L|⟨b,a,E,hb,hc,F⟩
 ·omega
 have p:((xs.take k).flatMap qL).length=k*1:=by rw[ko q9,aJ,bf (by omega)]
 have m:((xs.drop (k+1)).flatMap qL).length=(xs.length-(k+1))*1:=by rw[ko q9,aI]
 have G:xs.flatMap qL=(xs.take k).flatMap qL++(qL xs[k]++(xs.drop (k+1)).flatMap qL):=by
  rw[←aK,←eA q];exact yq xs k
 rw[G]at hc;have f:=Cw (xs.drop (k+1));have c:(xs.take k++xs.drop (k+1)).flatMap qL=(xs.take k).flatMap qL++(xs.drop (k+1)).flatMap qL:=bA;have I:(qL xs[k]).length=1:=rfl;generalize (xs.take k).flatMap qL=A at p hc c;generalize (xs.drop (k+1)).flatMap qL=B at m hc f c;generalize qL xs[k]=X at I hc;rw[E];simp only[d,aF];refine⟨by omega,by omega,by omega,CondP.intro (fun e=>?_) fun _=>?_⟩
 ·have:(k:Int)=((k+1:Nat):Int):=by simpa using e
  omega
 refine Join.plain ⟨by omega,by omega,B,?_,?_⟩
 ·by_cases j:xs.length=k+1
  ·exact⟨m,.inl (co.1 (by rw[m,j,nX,uT]))⟩
  rw[i9 (by omega)];refine kK hc m ?_;have:(A++X).length=0+(k+1)*1:=by rw[ae];omega
  rw[show A++(X++B)++a=(A++X)++(B++a) by simp only[ao],cn this,cX m]
 ·rw[sub_zero]
  refine PY hc (by simp only[ae];omega) (by omega) f fun P g w=>?_
  have y:a.length=(s.cap-xs.length)*1:=by rw[F,d]
  refine⟨by dsimp only;omega,by dsimp only;omega,?_⟩
  simp only[Bd];rw[i9 (by omega)];have H:xs.length-(k-0+(xs.length-(k+1)))=1:=by omega
  have x:(A++(X++B)++a).drop ((k-0)*1+B.length)=(X++B).drop B.length++a:=by
   rw[ao,←cS,cn (show A.length=(k-0)*1 by rw[p,eT]),gc (by rw[ae];omega)]
  have v:(A++(X++B)++a).take ((k-0)*1)=A:=by rw[ao,cX (show A.length=(k-0)*1 by rw[p,eT])]
  rw[x,v]at g;have o:((X++B).drop B.length).length=1:=by rw[aI,ae];omega
  generalize (X++B).drop B.length=D at o g;rw[H];have C:(c8 1 [.pointer none]).length=1:=rfl;have i:(A++B).length=0+(k-0+(xs.length-(k+1)))*1:=by rw[ae,p,m];omega
  refine Gp g (by simp only[ae]at i⊢;omega) fun O n t=>?_
  rw[cX i,←cS,cn i]at n;refine J _ _ ⟨by simp;omega,q9,by simp only;omega,.inr ⟨b,c8 1 [.pointer none]++(D++a).drop (c8 1 [.pointer none]).length,rfl,hb,?_,?_⟩⟩ ((w.mono fun _ e=>.inl (e▸hb)).tr (t.mono fun _ e=>.inl (e▸hb)))
  ·rw[n,c];simp only[ao]
  ·simp only[ae,aI,C,o,y]
   omega
theorem FP{W:Nat→Prop}{h:ac}{s:SliceV}{xs:List (Option Addr)}(d:Sl xB 1 W h s xs)(i:xs.length*8≤140737488355328){K:SliceV→ac→Prop}
  (e:∀s' h',OwnS xB 1 bJ (fun b=>h.size≤b) h' s' xs→Upd No h h'→K s' h'):HC PG cG [.slice s.a s.len s.cap] [.c .slice] K h:=by
 refine jz s ?_;unfold fu;refine CondP.intro (fun c=>?_) (fun n=>?_)
 ·have c:s.a=none:=by simpa using c
  have hx:xs= []:=by
   by_cases hx:xs= []
   ·exact hx
   ·obtain⟨a,g,_⟩:=d.row hx
    rw[c]at g;cases g
  subst hx;exact e _ _ (OwnS.nil p9) (Upd.refl _ _)
 ·have j:=d.upd (Upd.hnew No h [] bJ) (fun _ h=>h.elim)
  refine⟨_,j.srow,?_⟩;refine AppP.own (f:=xB) (M:=fun b=>h.size≤b) (xs:= []) (ys:=xs) ⟨rfl,p9,aj _,.inl rfl⟩ d.len rfl (Gv xs) rfl (by omega) (by simpa using i) (by rw[eI];omega) fun s' h' k m=>?_
  exact e _ _ k ((Upd.hnew No h [] bJ).trans m fun b hb=>.inr hb)
end Go.Proofs
namespace Go.Proofs
open Go.Lift
abbrev Pr:=ByteArray×ByteArray
theorem A2{a b:ByteArray}:a.toList=b.toList↔a=b:=by
 constructor
 ·intro h
  rw[ByteArray.toList_eq,ByteArray.toList_eq]at h;cases a;cases b;simp at h;subst h;rfl
 ·rintro rfl;rfl
def kl(a b:ByteArray):Prop:=Op.bytesLess a.toList b.toList=true
instance (a b:ByteArray):Decidable (kl a b):=inferInstanceAs (Decidable (_=true))
theorem Kv{a b:ByteArray}:kl a b↔a.toList<b.toList:=by unfold kl;rw[bytesLess_eq,decide_eq_true_iff]
theorem dj(a:ByteArray):¬kl a a:=by rw[Kv];exact List.lt_irrefl _
theorem kR{a b c:ByteArray}(h:kl a b)(k:kl b c):kl a c:=by rw[Kv]at*;exact List.lt_trans h k
theorem tri:∀x y:List UInt8,Op.bytesLess x y=false→x≠y→Op.bytesLess y x=true
 | [],[],_,h=>absurd rfl h
 | [],_::_,h,_=>by simp[Op.bytesLess]at h
 |_::_,[],_,_=>rfl
 |a::x,b::y,h,hn=>by
  simp only[Op.bytesLess,Bool.or_eq_false_iff,decide_eq_false_iff_not,Bool.and_eq_false_iff]at h;simp only[Op.bytesLess,Bool.or_eq_true,decide_eq_true_iff,Bool.and_eq_true];by_cases e:a=b
  ·subst e
   right;refine⟨by simp,tri x y ?_ fun e=>hn (by rw[e])⟩
   rcases h.2 with h|h
   ·simp at h
   ·exact h
  ·left
   have c:=h.1;rw[UInt8.lt_iff_toNat_lt]at c⊢;have:a.toNat≠b.toNat:=fun h=>e (UInt8.toNat_inj.1 h)
   omega
theorem AL{a b:ByteArray}(h:¬kl a b)(k:a≠b):kl b a:=tri _ _ (by unfold kl at h;simpa using h) fun e=>k (A2.1 e)
def GT(a b:ByteArray):Int:=if kl a b then-1 else if a=b then 0 else 1
theorem Ii{x:ByteArray}{h:ac}{K:Bool→ac→Prop}(a:K false h):HC PG mw [.string x] [.c .bool] K h:=by
 refine Cn x ?_;unfold vn;simpa using a
theorem DP{a b:ByteArray}{h:ac}{K:Int→ac→Prop}(c:K (GT a b) h):HC PG kj [.string a,.string b] [.c (.int .i64)] K h:=by
 refine zX a b ?_;unfold sR;refine Ii (Ii (ah.2 (ah.2 ?_)));unfold GT at c;refine CondP.intro (fun e=>?_) fun e=>?_
 ·rw[if_pos (show kl a b from e)]at c;exact c
 ·have f:¬kl a b:=fun h=>by rw[show Op.bytesLess a.toList b.toList=true from h]at e;cases e
  rw[if_neg f]at c;rw[e];refine CondP.intro (fun d=>?_) fun d=>?_
  ·rw[if_neg (fun h=>by subst h;simp at d)]at c;exact c
  ·have:a.toList=b.toList:=by simpa using d
   rw[if_pos (A2.1 this)]at c;exact c
theorem Pf{p:Pr}{k:ByteArray}{h:ac}{K:Int→ac→Prop}(a:∀h',Upd No h h'→K (GT p.1 k) h'):HC PG qP [.agg #[.string p.1,.string p.2],.string k] [.c (.int .i64)] K h:=by
 refine Hc p k ?_;unfold Af aC BB pq;have b1:=bG h [.string p.1,.string p.2] ar;refine⟨p.1,by rw[bZ,bB,aL b1];rfl,DP (a _ (Upd.hnew No h _ _))⟩
abbrev dL(l:List Pr):Prop:=l.Pairwise fun p q=>kl p.1 q.1
def pos(l:List Pr)(k:ByteArray):Nat:=(l.takeWhile fun p=>decide (kl p.1 k)).length
def eK(l:List Pr)(k:ByteArray):Bool:=l.any fun p=>decide (p.1=k)
theorem Pa{l:List Pr}{k:ByteArray}{i:Nat}(hi:i≤l.length)(b:∀j (h:j<l.length),j<i→kl l[j].1 k)(a:∀(h:i<l.length),¬kl l[i].1 k):pos l k=i:=by
 unfold pos;induction l generalizing i with
 |nil=>simp at hi;simp[hi]
 |cons p l ih=>
  rw[List.takeWhile_cons];cases i with
  |zero=>
   have:=a (by simp);simp only[jC]at this;rw[if_neg (by simpa using this)];rfl
  |succ i=>
   have:=b 0 (by simp) (by omega);simp only[jC]at this;rw[if_pos (by simpa using this),aN];congr 1
   refine ih (by simpa using hi) (fun j d c=>?_) fun h=>?_
   ·have:=b (j+1) (by simpa using d) (by omega)
    simpa using this
   ·have:=a (by simpa using h)
    simpa using this
theorem SJ(l:List Pr)(k:ByteArray):pos l k≤l.length:=by
 unfold pos;exact(List.takeWhile_prefix _).length_le
theorem Ml{W:Nat→Prop}{h:ac}{s:SliceV}{l:List Pr}(U:Sl il 2 W h s l)(hr:dL l)(hn:l.length≤1000000000)(k:ByteArray){K:Int×Bool→ac→Prop}
  (D:∀h',Upd No h h'→K ((pos l k:Int),eK l k) h'):HC PG r8 [.slice s.a s.len s.cap,.string k] [.c (.int .i64),.c .bool] K h:=by
 refine Jb s k ?_;unfold B2;refine gY s k _ ?_;unfold dS cx rQ vt bK;have T:=U.len;have J:∀{p:Pr} {h:ac} {K:Int→ac→Prop},(∀h',Upd No h h'→K (GT p.1 k) h')→HV PG (.func (.func qP) #[] #[]) [.agg #[.string p.1,.string p.2],.string k] [.c (.int .i64)] K h:=fun D=>HV.mk' (Pf D)
 refine LoopP.ghost (fun(g:Nat×Nat) (t:Int×Int) h'=>t.1=(g.1:Int)∧t.2=(g.2:Int)∧g.1≤g.2∧g.2≤l.length∧Upd No h h'∧(∀j (Q:j<l.length),j<g.1→kl l[j].1 k)∧(∀j (Q:j<l.length),g.2≤j→¬kl l[j].1 k)) (fun g=>g.2-g.1) (0,l.length)
  ⟨rfl,by simp only;omega,by simp,by simp,Upd.refl _ _,fun j Q h=>by omega,fun j Q h=>by simp only at h;omega⟩ ?_
 rintro I ⟨i,j⟩ ⟨ti,tj⟩ h' ⟨X,Y,C,B,N,d,w⟩ V;simp only at X Y C B d w;subst X Y;have L:=U.upd N fun _ h=>h.elim
 have mono:∀a b (E:a<l.length) (hb:b<l.length),a<b→kl l[a].1 l[b].1:=fun a b E hb S=>ey.1 hr a b E hb S
 refine aw (fun u=>?_) fun P=>?_
 ·have u:i<j:=by have:(i:Int)<(j:Int):=u;omega
  have em:IntKind.wrap .i64 (dY (IntKind.wrap .u64 (IntKind.wrap .i64 ((i:Int)+(j:Int)))) (2^(min (1:Int).toNat (IntKind.bits .u64))))=(((i+j)/2:Nat):Int):=by
   have e3:(2^(min (1:Int).toNat (IntKind.bits .u64)):Int)=2:=rfl;rw[e3,kE (x:=(i:Int)+(j:Int)) (by omega),Go.IntWalk.u64_in _ (by omega),Int.fdiv_eq_ediv_of_nonneg _ (by omega),kE (by omega)];omega
  refine⟨by decide,?_⟩;simp only[Bd];rw[em];generalize hm:(i+j)/2=m;have A:m<l.length:=by omega
  obtain⟨a,E,_,hv⟩:=L.at (al A);refine⟨by omega,a,E,l[m].1,hv 0 _ rfl,l[m].2,hv 1 _ rfl,J fun Z v=>?_⟩
  refine aw (fun f=>?_) fun F=>?_
  ·have c:kl l[m].1 k:=by
    unfold GT at f;by_cases c:kl l[m].1 k
    ·exact c
    ·rw[if_neg c]at f;split at f<;>omega
   refine V (m+1,j) _ _ ⟨by simp only;rw[kE (by omega)];omega,rfl,by simp only;omega,B,N.tr v,fun q y z=>?_,w⟩ (by simp only;omega)
   simp only at z;rcases bV q m with h|h
   ·exact kR (mono q m y A h) c
   ·have:q=m:=by omega
    subst this;exact c
  ·have o:¬kl l[m].1 k:=fun c=>F (by unfold GT;rw[if_pos c];decide)
   refine V (i,m) _ _ ⟨rfl,rfl,by simp only;omega,by simp only;omega,N.tr v,d,fun q y z H=>?_⟩ (by simp only;omega)
   simp only at z;rcases bV m q with h|h
   ·exact o (kR (mono m q A y h) H)
   ·have:q=m:=by omega
    subst this;exact o H
 ·have C:i=j:=by have:¬(i:Int)<(j:Int):=P;omega
  subst C;have G:pos l k=i:=Pa B d fun hi=>w i hi (aj _)
  rw[G]at D;refine aw (fun u=>?_) fun O=>?_
  ·have n:i<l.length:=by have:(i:Int)<(s.len:Int):=u;omega
   obtain⟨a,E,_,hv⟩:=L.at (al n);refine⟨by simp only;omega,a,E,l[i].1,hv 0 _ rfl,l[i].2,hv 1 _ rfl,J fun Z v=>?_⟩
   have o:=w i n (aj _);have R:(GT l[i].1 k==(0:Int))=eK l k:=by
    unfold GT eK;rw[if_neg o,Bool.eq_iff_iff,bS];constructor
    ·intro h
     split at h
     ·rename_i e;exact⟨l[i],List.getElem_mem n,decide_eq_true e⟩
     ·simp at h
    ·rintro⟨p,G,e⟩
     have e:=of_decide_eq_true e;obtain⟨q,y,rfl⟩:=List.mem_iff_getElem.1 G;have:q=i:=by
      rcases Nat.lt_trichotomy q i with h|h|h
      ·exact absurd (e▸d q y h) (dj _)
      ·exact h
      ·exact absurd (e▸mono i q n y h) o
     subst this;rw[if_pos e];rfl
   rw[R];exact D _ (N.tr v)
  ·have n:i=l.length:=by have:¬(i:Int)<(s.len:Int):=O;omega
   have R:eK l k=false:=by
    unfold eK;rw[List.any_eq_false];intro p G e;have e:=of_decide_eq_true e;obtain⟨q,y,rfl⟩:=List.mem_iff_getElem.1 G;exact absurd (e▸d q y (by omega)) (dj _)
   rw[R]at D;exact D _ N
end Go.Proofs
namespace Go.Proofs
open Go.Lift
theorem OwnS.zero{α:Type}{f:α→List Value}{c:Nat}{t:TypeId}{M:Nat→Prop}{h:ac}{s:SliceV}{xs:List α}(d:OwnS f c t M h s xs):OwnS f c t M h ⟨aS s.a 0 s.cap c,0-0,s.cap-0⟩ []:=by
 have g:∀x,(f x).length=c∧0<c:=d.ne;have e:=d.len;have i:=d.cap;refine⟨rfl,g,by simp only;omega,?_⟩
 rcases d.blk with m|⟨b,a,j,hb,hc,k⟩
 ·exact .inl (by simp only;omega)
 ·refine .inr ⟨b,xs.flatMap f++a,by rw[j,sub_zero],hb,hc,?_⟩
  rw[ae,ko g,k,←Nat.add_mul];simp only;congr 1;omega
def Qy:Pr:=(⟨#[]⟩,⟨#[]⟩)
theorem LI(n:Nat):c8 n [.string (⟨#[]⟩:ByteArray),.string (⟨#[]⟩:ByteArray)]=(dM n Qy).flatMap il:=by
 unfold c8;induction n with
 |zero=>rfl
 |succ n ih=>rw[l0,l0,aK,←ih];rfl
theorem Rx{n:Nat}(c:n*32≤140737488355328){h:ac}{K:SliceV→ac→Prop}(a:∀s' h',OwnS il 2 ar (fun b=>h.size≤b) h' s' []→Upd No h h'→K s' h'):
  HC PG eO [.slice none 0 0,.int .i64 n] [.c .slice] K h:=by
 refine md ⟨none,0,0⟩ n ?_;unfold gU qT;have e:IntKind.wrap .i64 ((n:Int)-IntKind.wrap .i64 (((0:Nat):Int)-((0:Nat):Int)))=(n:Int):=by rw[kE (x:=((0:Nat):Int)-((0:Nat):Int)) (by omega),kE (by omega)];omega
 refine Join.plain (aw (fun h=>by omega) fun _=>?_)
 simp only[Bd];rw[e];refine aw (fun j=>?_) fun i=>a _ _ (OwnS.nil iu) (Upd.refl _ _)
 refine⟨by omega,⟨by omega,by omega,by omega,by omega⟩,?_⟩
 refine AppP.own (f:=il) (M:=fun b=>h.size≤b) (xs:= []) (ys:=dM n Qy) (OwnS.nil iu) (by simp) (LI _) (by rw[LI];exact wR _) rfl (by omega) (by simpa using c) (aj _) fun s' h' d g=>?_
 exact⟨by omega,a _ _ (OwnS.zero d) (g.mono fun b hb=>.inr hb)⟩
abbrev slF(s:SliceV):List Value:= [.slice s.a s.len s.cap]
def ParS(h:ac):List SliceV→List (List Pr)→Prop
 | [],[]=>True
 |v::vs,l::ls=>Sl il 2 No h v l∧ParS h vs ls
 |_,_=>False
theorem ParS.upd{h h':ac}(k:Upd No h h'):∀{vs:List SliceV} {ls:List (List Pr)},ParS h vs ls→ParS h' vs ls
 | [],[],_=>trivial
 |_::_,_::_,q=>⟨q.1.upd k fun _ h=>h.elim,ParS.upd k q.2⟩
 | [],_::_,q=>q.elim
 |_::_,[],q=>q.elim
theorem ParS.len{h:ac}:∀{vs:List SliceV} {ls:List (List Pr)},ParS h vs ls→vs.length=ls.length
 | [],[],_=>rfl
 |_::_,_::_,q=>by rw[aN,aN,ParS.len q.2]
 | [],_::_,q=>q.elim
 |_::_,[],q=>q.elim
theorem ParS.at{h:ac}:∀{vs:List SliceV} {ls:List (List Pr)},ParS h vs ls→∀{i:Nat} (h1:i<vs.length) (h2:i<ls.length),Sl il 2 No h vs[i] ls[i]
 |_::_,_::_,q,0,_,_=>q.1
 |_::_,_::_,q,i+1,h1,h2=>ParS.at q.2 (by simpa using h1) (by simpa using h2)
theorem FH(ls:List (List Pr)){i:Nat}(hi:i<ls.length):(ls.take (i+1)).flatten=(ls.take i).flatten++ls[i]:=by
 rw[List.take_succ_eq_append_getElem hi,eD,fx,o6,List.append_nil]
theorem Mj(ls:List (List Pr))(i:Nat):(ls.take i).flatten.length≤ls.flatten.length:=by
 have:ls.flatten=(ls.take i).flatten++(ls.drop i).flatten:=by rw[←eD,List.take_append_drop]
 rw[this,ae];omega
theorem NC{h:ac}{s:SliceV}{vs:List SliceV}{ls:List (List Pr)}(w:Sl slF 1 No h s vs)(z:ParS h vs ls)(L:ls.flatten.length*32≤140737488355328)(hv:vs.length≤1000)
  {K:SliceV→ac→Prop}(J:∀s' h',OwnS il 2 ar (fun b=>h.size≤b) h' s' ls.flatten→Upd No h h'→K s' h'):HC PG eg [.slice s.a s.len s.cap] [.c .slice] K h:=by
 refine lD s ?_;unfold gt aR cx qT;have E:=w.len;have e:=z.len;refine LoopP.ghost (fun(i:Nat) (t:Int×Int) h'=>t.2=(i:Int)∧i≤vs.length∧t.1=((ls.take i).flatten.length:Int)∧h'=h) (fun i=>vs.length-i) 0 ⟨rfl,aP _,by simp,rfl⟩ ?_
 rintro I i ⟨T,Z⟩ h' ⟨m,hi,F,rfl⟩ H;simp only at m F;subst m F;refine aw (fun c=>?_) fun x=>?_
 ·have c:i<vs.length:=by have:(i:Int)<(s.len:Int):=c;omega
  obtain⟨a,A,_,f⟩:=w.at (al c);have P:=(z.at c (e▸c)).len;have d:=congrArg eH (FH ls (e▸c));rw[ae]at d;have v:=Mj ls (i+1);refine Join.plain ⟨by simp only;omega,a,A,_,f 0 _ rfl,?_⟩;simp only;have N:IntKind.wrap .i64 (((ls.take i).flatten.length:Int)+((vs[i]).len:Int))=((ls.take (i+1)).flatten.length:Int):=by rw[kE (by omega)];omega
  rw[N];refine aw (fun h=>by omega) fun _=>?_
  rw[bN c (by omega)];exact H (i+1) _ _ ⟨rfl,c,rfl,rfl⟩ (by omega)
 ·have O:i=vs.length:=by have:¬(i:Int)<(s.len:Int):=x;omega
  rw[bh (by omega)];refine Rx L fun Y Q y D=>?_
  refine LoopP.ghost (fun(i:Nat) (t:SliceV×Int) C=>t.2=(i:Int)∧i≤vs.length∧OwnS il 2 ar (fun b=>h'.size≤b) C t.1 (ls.take i).flatten∧Upd No h' C) (fun i=>vs.length-i) 0 ⟨rfl,aP _,by simpa using y,D⟩ ?_
  rintro W j ⟨U,X⟩ C ⟨m,S,p,n⟩ B;simp only at m p;subst m;refine aw (fun c=>?_) fun k=>?_
  ·have c:j<vs.length:=by have:(j:Int)<(s.len:Int):=c;omega
   obtain⟨a,A,_,f⟩:=(w.upd n fun _ h=>h.elim).at (al c)
   have g:=((z.upd n).at c (e▸c));have d:=FH ls (e▸c);have o:=congrArg eH d;rw[ae]at o;have v:=Mj ls (j+1);refine Join.plain ⟨by simp only;omega,a,A,_,f 0 _ rfl,_,g.srow,?_⟩;refine AppP.own (ys:=ls[j]) p g.len rfl (wR _) rfl (by omega) (by omega) n.size fun R V q u=>?_
   simp only;rw[bN c (by omega)];exact B (j+1) _ _ ⟨rfl,c,d▸q,n.trans u fun b hb=>.inr hb⟩ (by omega)
  ·have G:j=vs.length:=by have:¬(j:Int)<(s.len:Int):=k;omega
   rw[bh (by omega)]at p;exact J _ _ p n
def GH(l:List Pr)(p:Pr):List Pr:=l.take (pos l p.1)++p::l.drop (if eK l p.1 then pos l p.1+1 else pos l p.1)
theorem Kd{l:List Pr}(f:dL l){k:ByteArray}(c:eK l k=true):∃h:pos l k<l.length,l[pos l k].1=k:=by
 unfold eK at c;obtain⟨p,g,e⟩:=bS.1 c;have e:=of_decide_eq_true e;obtain⟨q,b,rfl⟩:=List.mem_iff_getElem.1 g;have:pos l k=q:=Pa (by omega) (fun j d a=>by rw[←e];exact ey.1 f j q d b a) fun h=>by rw[←e];exact dj _
 subst this;exact⟨b,e⟩
theorem OO{h:ac}{s:SliceV}{l:List Pr}(d:Sl il 2 No h s l){i j m:Nat}(b:i≤j)(a:j≤l.length)(e:j≤m)(c:Nat):Sl il 2 No h ⟨aS s.a i m 2,j-i,c⟩ ((l.drop i).take (j-i)):=Sl.sub d b a e
theorem Kh{h:ac}{s:SliceV}{l:List Pr}(o:Sl il 2 No h s l)(hc:s.len≤s.cap)(w:dL l)(G:l.length≤1000000000)(p:Pr)
  {K:SliceV→ac→Prop}(F:∀s' h',OwnS il 2 ar (fun b=>h.size≤b) h' s' (GH l p)→Upd No h h'→K s' h'):HC PG yk [.slice s.a s.len s.cap,.agg #[.string p.1,.string p.2]] [.c .slice] K h:=by
 refine Lr s p ?_;unfold Eo aC BB pq xQ;have c:=o.len;have k1:=Upd.hnew No h [.string p.1,.string p.2] ar;have b1:=bG h [.string p.1,.string p.2] ar;refine bq ?_;simp only[bZ h];generalize hnew h [.string p.1,.string p.2] ar=h1 at k1 b1;refine⟨p.1,by rw[bB,aL b1];rfl,Ml (o.upd k1 fun _ h=>h.elim) w G p.1 fun I f=>?_⟩
 have A:=SJ l p.1;have a:=k1.tr f;refine⟨by simp only;omega,?_⟩;let q:=if eK l p.1 then pos l p.1+1 else pos l p.1
 have L:q≤l.length:=by
  show(if eK l p.1 then pos l p.1+1 else pos l p.1)≤l.length
  split
  ·rename_i ht;obtain⟨h,_⟩:=Kd w ht;omega
  ·exact A
 refine Join.intro (fun t h'=>h'=I∧t=⟨aS s.a q s.cap 2,s.len-q,s.cap-q⟩) (fun R B=>?_) ?_
 ·refine CondP.intro (fun e=>?_) fun e=>B _ _ ⟨rfl,?_⟩
  ·have e:eK l p.1=true:=e
   obtain⟨D,_⟩:=Kd w e;have H:IntKind.wrap .i64 ((pos l p.1:Int)+1)=((pos l p.1+1:Nat):Int):=by rw[kE (by omega)];omega
   simp only;rw[H];refine⟨by omega,B _ _ ⟨rfl,?_⟩⟩;have:q=pos l p.1+1:=by show(if eK l p.1 then _ else _)=_;rw[if_pos e]
   rw[this];rfl
  ·have e:eK l p.1=false:=e
   have:q=pos l p.1:=by show(if eK l p.1 then _ else _)=_;rw[if_neg (by rw[e];decide)]
   rw[this];rfl
 ·rintro t h' ⟨rfl,rfl⟩
  have b2:=f.get0 b1;refine⟨by simp only;omega,p.1,by rw[bB,aL b2];rfl,p.2,by rw[bB,aL b2];rfl,?_⟩
  have n:=Upd.hnew No h' [.string p.1,.string p.2] ar;have b3:=bG h' [.string p.1,.string p.2] ar;refine bq ?_;simp only[bZ h'];generalize hnew h' [.string p.1,.string p.2] ar=h3 at n b3;refine bq ?_;have g:=(o.upd a fun _ h=>h.elim).upd n fun _ h=>h.elim
  have k:=Upd.hnew No h3 [.slice (aS s.a 0 s.cap 2) ((pos l p.1:Int).toNat-0) (s.cap-0),.slice (some ⟨h'.size,0,none⟩) 1 1,.slice (aS s.a q s.cap 2) (s.len-q) (s.cap-q)] jU;have J:=bG h3 [.slice (aS s.a 0 s.cap 2) ((pos l p.1:Int).toNat-0) (s.cap-0),.slice (some ⟨h'.size,0,none⟩) 1 1,.slice (aS s.a q s.cap 2) (s.len-q) (s.cap-q)] jU;have z:=OO g (i:=0) (j:=pos l p.1) (m:=s.cap) (aP _) A (by omega) (s.cap-0)
  have E:Sl il 2 No h3 ⟨some ⟨h'.size,0,none⟩,1,1⟩ [p]:=⟨rfl,iu,fun _=>⟨_,rfl,fun h=>h.elim,np b3 fun i v hv=>by simpa using hv⟩⟩
  have u:=OO g (i:=q) (j:=l.length) (m:=s.cap) L (aj _) (by omega) (s.cap-q);rw[←c]at u;rw[dE]at z;rw[bh (by rw[aI];omega)]at u;have N:GH l p= [l.take (pos l p.1-0),[p],l.drop q].flatten:=by simp[GH,q]
  refine NC (s:=⟨some (aH h3),3,3⟩) (vs:= [⟨aS s.a 0 s.cap 2,(pos l p.1:Int).toNat-0,s.cap-0⟩,⟨some ⟨h'.size,0,none⟩,1,1⟩,⟨aS s.a q s.cap 2,s.len-q,s.cap-q⟩]) (ls:= [l.take (pos l p.1-0),[p],l.drop q])
   ⟨rfl,fun x=>⟨rfl,Nat.one_pos⟩,fun _=>⟨_,rfl,fun h=>h.elim,np J fun i v hv=>by simpa[slF]using hv⟩⟩ ⟨z.upd k fun _ h=>h.elim,E.upd k fun _ h=>h.elim,u.upd k fun _ h=>h.elim,trivial⟩ ?_ (by simp) fun P O d y=>?_
  ·simp only[fx,o6,ae,aJ,aI,List.length_singleton,List.length_nil];omega
  ·rw[←N]at d
   have C:=((a.tr n).tr k);exact F _ _ (d.more fun b hb=>Nat.le_trans C.size hb) (C.tr y)
end Go.Proofs
