/- A part of the proof that the named laws of this program answer true, whatever the input. -/
import Derived.Test.YtfmnhpbjeapjaaaGreatTreeF0
import Derived.Test.YtfmnhpbjeapjaaaGreatTreeF1
import Derived.Test.YtfmnhpbjeapjaaaGreatTreeF2
import Derived.Test.YtfmnhpbjeapjaaaGreatLaw0
import Derived.Test.YtfmnhpbjeapjaaaGreatLift3
import Derived.Lib.Overlaps
import Derived.Sort.Walk0
open BitVec renaming ofInt→ae
open Int renaming fdiv→eG,toNat_natCast→aU
open List renaming flatMap_cons→bv,take_length→c8,length_take→bi,length_drop→aO,flatMap_append→bX,drop_zero→dN,append_assoc→aJ,take_append_of_le_length→ep,take_of_length_le→bI,length_append→ai,drop_left→jm,take_left→lq,size_toArray→cA,drop_eq_getElem_cons→lV,length_eq_zero_iff→bU,drop_left'→bZ,take_left'→cK,drop_drop→cR,drop_append_of_le_length→ge,length_cons→aX,pairwise_iff_getElem→cJ,getElem?_eq_getElem→aA,any_eq_true→bQ,replicate→eE,replicate_succ→me,flatten_cons→oQ,length→jz
open Nat renaming zero_le→cu,zero_add→az,sub_self→vo,le_refl→av,lt_or_ge→cF,min_eq_left→bw,sub_zero→fo,min→cX,add_one_mul→fC,one_mul→qm,le_mul_of_pos_left→oN,min_eq_right→pw
namespace Go.Proofs
open Go.Lift
theorem Ii(n:Int):0≤IntKind.wrap .u64 n∧IntKind.wrap .u64 n<18446744073709551616:=by rw[IntKind.wrap_u64];omega
theorem dT{x:Int}(h: -4611686018427387904≤x∧x≤4611686018427387904):IntKind.wrap .i64 x=x:=Go.IntWalk.i64_in _ (by omega)
theorem gN{i n:Nat}(h:i<n)(b:n≤4611686018427387904):IntKind.wrap .i64 ((i:Int)+1)=((i+1:Nat):Int):=by rw[dT (by omega)];omega
theorem yL{h:ac}{b i:Nat}{c:Array Value}{t:TypeId}{v:Value}{k:ac→Prop}(d:h[b]? =some (.cells c t (0,0)))
  (e:∀h',h'[b]? =some (.cells (c.setIfInBounds i v) t (0,0))→Upd (· =b) h h'→k h'):At (hset h ⟨b,i,none⟩ v) k:=by
 refine e _ ?_ (Upd.hset _ _ rfl);rw[mq d,dU d]
def NV(a b:Int):Int:=IntKind.wrap .u64 (ae (IntKind.bits .u64) a&&&ae (IntKind.bits .u64) b).toNat
def fx(a b:Int):Int:=IntKind.wrap .u64 (ae (IntKind.bits .u64) a^^^ae (IntKind.bits .u64) b).toNat
def MJ(a b:Int):Int:=IntKind.wrap .u64 (ae (IntKind.bits .u64) a|||ae (IntKind.bits .u64) b).toNat
def IC(x n:Int):Int:=
 MJ (IntKind.wrap .u64 (x*2^(min (NV (IntKind.wrap .u64 n) 63).toNat (IntKind.bits .u64)))) (eG x (2^(min (IntKind.wrap .u64 (64-NV (IntKind.wrap .u64 n) 63)).toNat (IntKind.bits .u64))))
theorem AU{x n:Int}{h:ac}{K:Int→ac→Prop}(b:K (IC x n) h):HC PG ct [.int .u64 x,.int .i64 n] [.c (.int .u64)] K h:=by
 refine ui x n ?_;unfold mB;exact⟨(Ii _).1,(Ii _).1,b⟩
abbrev Q4:=Int×Int×Int×Int
def q4(s:Q4):Array Value:= #[.int .u64 s.1,.int .u64 s.2.1,.int .u64 s.2.2.1,.int .u64 s.2.2.2]
def Pe(a b:Int):Int:=IntKind.wrap .u64 (a+b)
def N6(s:Q4):Q4:=(Pe s.1 s.2.1,s.2)
def Ou(s:Q4):Q4:=(s.1,fx (IC s.2.1 13) s.1,s.2.2)
def Po(s:Q4):Q4:=(IC s.1 32,s.2)
def Pn(s:Q4):Q4:=(s.1,s.2.1,Pe s.2.2.1 s.2.2.2,s.2.2.2)
def QF(s:Q4):Q4:=(s.1,s.2.1,s.2.2.1,fx (IC s.2.2.2 16) s.2.2.1)
def QU(s:Q4):Q4:=(Pe s.1 s.2.2.2,s.2)
def Ru(s:Q4):Q4:=(s.1,s.2.1,s.2.2.1,fx (IC s.2.2.2 21) s.1)
def RJ(s:Q4):Q4:=(s.1,s.2.1,Pe s.2.2.1 s.2.1,s.2.2.2)
def s09(s:Q4):Q4:=(s.1,fx (IC s.2.1 17) s.2.2.1,s.2.2)
def RI(s:Q4):Q4:=(s.1,s.2.1,IC s.2.2.1 32,s.2.2.2)
def IB(s:Q4):Q4:=RI (s09 (RJ (Ru (QU (QF (Pn (Po (Ou (N6 s)))))))))
def nV:Nat→Q4→Q4
 |0,s=>s
 |n+1,s=>nV n (IB s)
theorem pf{h:ac}{b i:Nat}{t:TypeId}{s s':Q4}{v:Value}{k:ac→Prop}(g:h[b]? =some (.cells (q4 s) t (0,0))) (e:(q4 s).setIfInBounds i v=q4 s')
  (f:∀h',h'[b]? =some (.cells (q4 s') t (0,0))→Upd (· =b) h h'→k h'):At (hset h ⟨b,i,none⟩ v) k:=
 yL g fun h' c d=>f h' (e▸c) d
theorem EV{n:Nat}(hn:n≤100){h:ac}{b:Nat}{t:TypeId}{s:Q4}(B:h[b]? =some (.cells (q4 s) t (0,0))) {K:Unit→ac→Prop}
  (R:∀h',h'[b]? =some (.cells (q4 (nV n s)) t (0,0))→Upd (· =b) h h'→K () h'):HC PG gR [.pointer (some ⟨b,0,none⟩),.int .i64 n] [] K h:=by
 refine yS _ _ ?_;unfold sw aD bT bV vH;refine LoopP.ghost (fun(g:Nat×Q4) (Q:Int) h'=>Q=(g.1:Int)∧g.1≤n∧h'[b]? =some (.cells (q4 g.2) t (0,0))∧Upd (· =b) h h'∧nV (n-g.1) g.2=nV n s) (fun g=>n-g.1) (0,s) ⟨rfl,cu _,B,Upd.refl _ _,rfl⟩ ?_
 rintro I ⟨i,e⟩ Q h' ⟨P,E,d,S,y⟩ W;simp only at P E d y;subst P;refine ax (fun x=>?_) fun V=>?_
 ·have x:i<n:=by omega
  have c:∀{h:ac} {s:Q4} {i:Nat},h[b]? =some (.cells (q4 s) t (0,0))→aB h ⟨b,0+i,none⟩=(q4 s)[i]?:=fun B=>by rw[az];exact aC B
  have w:∀{h:ac} {s:Q4} {i:Nat},h[b]? =some (.cells (q4 s) t (0,0))→i<4→Wr h ⟨b,0+i,none⟩:=fun B E=>by rw[az];exact fR B E
  simp only[show((0:Int)).toNat*1=0 from rfl,show((1:Int)).toNat*1=1 from rfl,show((2:Int)).toNat*1=2 from rfl,show((3:Int)).toNat*1=3 from rfl]
  refine⟨_,rfl,by decide,_,c (i:=0) d,_,rfl,by decide,_,c (i:=1) d,_,rfl,by decide,w (i:=0) d (by decide),pf (s':=N6 e) d rfl fun X m G=>?_⟩
  refine⟨_,rfl,by decide,_,c (i:=1) m,_,rfl,by decide,_,c (i:=0) m,_,rfl,AU ⟨c (i:=0) m,by decide,w (i:=1) m (by decide),pf (s':=Ou (N6 e)) m rfl fun Z v L=>?_⟩⟩
  refine⟨_,rfl,by decide,_,c (i:=0) v,_,rfl,AU ⟨by decide,w (i:=0) v (by decide),pf (s':=Po (Ou (N6 e))) v rfl fun h4 u H=>?_⟩⟩
  refine⟨_,rfl,by decide,_,c (i:=2) u,_,rfl,by decide,_,c (i:=3) u,_,rfl,by decide,w (i:=2) u (by decide),pf (s':=Pn (Po (Ou (N6 e)))) u rfl fun h5 k J=>?_⟩
  refine⟨_,rfl,by decide,_,c (i:=3) k,_,rfl,by decide,_,c (i:=2) k,_,rfl,AU ⟨c (i:=2) k,by decide,w (i:=3) k (by decide),pf (s':=QF (Pn (Po (Ou (N6 e))))) k rfl fun h6 p O=>?_⟩⟩
  refine⟨_,rfl,by decide,_,c (i:=0) p,_,rfl,by decide,_,c (i:=3) p,_,rfl,by decide,w (i:=0) p (by decide),pf (s':=QU (QF (Pn (Po (Ou (N6 e)))))) p rfl fun h7 o D=>?_⟩
  refine⟨_,rfl,by decide,_,c (i:=3) o,_,rfl,by decide,_,c (i:=0) o,_,rfl,AU ⟨c (i:=0) o,by decide,w (i:=3) o (by decide),pf (s':=Ru (QU (QF (Pn (Po (Ou (N6 e))))))) o rfl fun Y q N=>?_⟩⟩
  refine⟨_,rfl,by decide,_,c (i:=2) q,_,rfl,by decide,_,c (i:=1) q,_,rfl,by decide,w (i:=2) q (by decide),pf (s':=RJ (Ru (QU (QF (Pn (Po (Ou (N6 e)))))))) q rfl fun h9 f F=>?_⟩
  refine⟨_,rfl,by decide,_,c (i:=1) f,_,rfl,by decide,_,c (i:=2) f,_,rfl,AU ⟨c (i:=2) f,by decide,w (i:=1) f (by decide),pf (s':=s09 (RJ (Ru (QU (QF (Pn (Po (Ou (N6 e))))))))) f rfl fun T j C=>?_⟩⟩
  refine⟨_,rfl,by decide,_,c (i:=2) j,_,rfl,AU ⟨by decide,w (i:=2) j (by decide),pf (s':=IB e) j rfl fun U A z=>?_⟩⟩
  rw[gN x (by omega)];refine W (i+1,IB e) _ _ ⟨rfl,x,A,S.tr (G.tr (L.tr (H.tr (J.tr (O.tr (D.tr (N.tr (F.tr (C.tr z))))))))),?_⟩ (by simp only;omega);simp only;rw[←y,show n-i=(n-(i+1))+1 by omega];rfl
 ·obtain rfl:i=n:=by omega
  rw[vo]at y;have y:e=nV i s:=y;rw[←y]at R;exact R _ d S
end Go.Proofs
namespace Go.Proofs
open Go.Lift
def O6(s:ByteArray)(i:Nat):Int:=match s[i]? with|some b=>(b.toNat:Int)|none=>0
def Rt(b:Int)(n:Int):Int:=IntKind.wrap .u64 ((IntKind.wrap .u64 b)*2^(min n.toNat (IntKind.bits .u64)))
def wj(s:ByteArray):Nat→Int→Int
 |0,t=>t
 |k+1,t=>wj s k (MJ t (if k=0 then IntKind.wrap .u64 (O6 s 0)else Rt (O6 s k) ((8*k:Nat):Int)))
def BN(s:ByteArray):Int:=wj s s.size 0
theorem tn{s:ByteArray}{i:Nat}(h:i<s.size):∃b,s[i]? =some b∧O6 s i=(b.toNat:Int):=⟨s[i],getElem?_pos s i h,by simp[O6,getElem?_pos s i h]⟩
theorem JQ{s:ByteArray}(P:s.size≤8){h:ac}{K:Int→ac→Prop}(j:K (BN s) h):HC PG vd [.string s] [.c (.int .u64)] K h:=by
 refine JF s ?_;unfold Eb;refine Join.intro (fun t h'=>h'=h∧1≤s.size∧wj s 1 t=wj s s.size 0) (fun T u=>?_) ?_
 ·refine Join.intro (fun t h'=>h'=h∧2≤s.size∧wj s 2 t=wj s s.size 0) (fun L p=>?_) ?_
  ·refine Join.intro (fun t h'=>h'=h∧3≤s.size∧wj s 3 t=wj s s.size 0) (fun E n=>?_) ?_
   ·refine Join.intro (fun t h'=>h'=h∧4≤s.size∧wj s 4 t=wj s s.size 0) (fun O o=>?_) ?_
    ·refine Join.intro (fun t h'=>h'=h∧5≤s.size∧wj s 5 t=wj s s.size 0) (fun S q=>?_) ?_
     ·refine Join.intro (fun t h'=>h'=h∧6≤s.size∧wj s 6 t=wj s s.size 0) (fun F k=>?_) ?_
      ·refine Join.intro (fun t h'=>h'=h∧7≤s.size∧wj s 7 t=wj s s.size 0) (fun D m=>?_) ?_
       ·refine CondP.intro (fun e=>?_) fun v=>?_
        ·have e:s.size=8:=by have:=of_decide_eq_true (by simpa using e:decide ((s.size:Int)=8)=true);omega
         obtain⟨b,d,c⟩:=tn (s:=s) (i:=7) (by omega);refine⟨b,by decide,d,by decide,m _ _ ⟨rfl,by omega,?_⟩⟩
         rw[e,←c];rfl
        refine CondP.intro (fun e=>?_) fun C=>?_
        ·have e:s.size=7:=by have:=of_decide_eq_true (by simpa using e:decide ((s.size:Int)=7)=true);omega
         exact m _ _ ⟨rfl,by omega,by rw[e]⟩
        refine CondP.intro (fun e=>?_) fun z=>?_
        ·have e:s.size=6:=by have:=of_decide_eq_true (by simpa using e:decide ((s.size:Int)=6)=true);omega
         exact k _ _ ⟨rfl,by omega,by rw[e]⟩
        refine CondP.intro (fun e=>?_) fun y=>?_
        ·have e:s.size=5:=by have:=of_decide_eq_true (by simpa using e:decide ((s.size:Int)=5)=true);omega
         exact q _ _ ⟨rfl,by omega,by rw[e]⟩
        refine CondP.intro (fun e=>?_) fun B=>?_
        ·have e:s.size=4:=by have:=of_decide_eq_true (by simpa using e:decide ((s.size:Int)=4)=true);omega
         exact o _ _ ⟨rfl,by omega,by rw[e]⟩
        refine CondP.intro (fun e=>?_) fun A=>?_
        ·have e:s.size=3:=by have:=of_decide_eq_true (by simpa using e:decide ((s.size:Int)=3)=true);omega
         exact n _ _ ⟨rfl,by omega,by rw[e]⟩
        refine CondP.intro (fun e=>?_) fun w=>?_
        ·have e:s.size=2:=by have:=of_decide_eq_true (by simpa using e:decide ((s.size:Int)=2)=true);omega
         exact p _ _ ⟨rfl,by omega,by rw[e]⟩
        refine CondP.intro (fun e=>?_) fun x=>?_
        ·have e:s.size=1:=by have:=of_decide_eq_true (by simpa using e:decide ((s.size:Int)=1)=true);omega
         exact u _ _ ⟨rfl,by omega,by rw[e]⟩
        have e:s.size=0:=by
         have H:¬(s.size:Int)=1:=by simpa using x
         have G:¬(s.size:Int)=2:=by simpa using w
         have Q:¬(s.size:Int)=3:=by simpa using A
         have q4:¬(s.size:Int)=4:=by simpa using B
         have I:¬(s.size:Int)=5:=by simpa using y
         have J:¬(s.size:Int)=6:=by simpa using z
         have N:¬(s.size:Int)=7:=by simpa using C
         have R:¬(s.size:Int)=8:=by simpa using v
         omega
        unfold BN at j;rw[e]at j;exact j
       ·rintro t _ ⟨rfl,g,f⟩
        obtain⟨b,d,c⟩:=tn (s:=s) (i:=6) (by omega);refine⟨b,by decide,d,by decide,k _ _ ⟨rfl,by omega,?_⟩⟩
        rw[←f,←c];rfl
      ·rintro t _ ⟨rfl,g,f⟩
       obtain⟨b,d,c⟩:=tn (s:=s) (i:=5) (by omega);refine⟨b,by decide,d,by decide,q _ _ ⟨rfl,by omega,?_⟩⟩
       rw[←f,←c];rfl
     ·rintro t _ ⟨rfl,g,f⟩
      obtain⟨b,d,c⟩:=tn (s:=s) (i:=4) (by omega);refine⟨b,by decide,d,by decide,o _ _ ⟨rfl,by omega,?_⟩⟩
      rw[←f,←c];rfl
    ·rintro t _ ⟨rfl,g,f⟩
     obtain⟨b,d,c⟩:=tn (s:=s) (i:=3) (by omega);refine⟨b,by decide,d,by decide,n _ _ ⟨rfl,by omega,?_⟩⟩
     rw[←f,←c];rfl
   ·rintro t _ ⟨rfl,g,f⟩
    obtain⟨b,d,c⟩:=tn (s:=s) (i:=2) (by omega);refine⟨b,by decide,d,by decide,p _ _ ⟨rfl,by omega,?_⟩⟩
    rw[←f,←c];rfl
  ·rintro t _ ⟨rfl,g,f⟩
   obtain⟨b,d,c⟩:=tn (s:=s) (i:=1) (by omega);refine⟨b,by decide,d,by decide,u _ _ ⟨rfl,by omega,?_⟩⟩
   rw[←f,←c];rfl
 ·rintro t _ ⟨rfl,g,f⟩
  obtain⟨b,d,c⟩:=tn (s:=s) (i:=0) (by omega);refine⟨b,by decide,d,?_⟩
  unfold BN at j;rw[←f]at j;rw[←c];exact j
end Go.Proofs
namespace Go.Proofs
open Go.Lift
def C7(m:Int)(s:Q4):Q4:=
 let r:=nV 2 (s.1,s.2.1,s.2.2.1,fx s.2.2.2 m)
 (fx r.1 m,r.2)
theorem JV{m:Int}{h:ac}{b:Nat}{t:TypeId}{s:Q4}(e:h[b]? =some (.cells (q4 s) t (0,0))) {K:Unit→ac→Prop}
  (g:∀h',h'[b]? =some (.cells (q4 (C7 m s)) t (0,0))→Upd (· =b) h h'→K () h'):HC PG lF [.pointer (some ⟨b,0,none⟩),.int .u64 m] [] K h:=by
 refine BB _ _ ?_;unfold uJ aD bT bV sN;have c:∀{h:ac} {s:Q4} {i:Nat},h[b]? =some (.cells (q4 s) t (0,0))→aB h ⟨b,0+i,none⟩=(q4 s)[i]?:=fun e=>by rw[az];exact aC e
 have w:∀{h:ac} {s:Q4} {i:Nat},h[b]? =some (.cells (q4 s) t (0,0))→i<4→Wr h ⟨b,0+i,none⟩:=fun e u=>by rw[az];exact fR e u
 simp only[show((0:Int)).toNat*1=0 from rfl,show((3:Int)).toNat*1=3 from rfl]
 refine⟨_,rfl,by decide,_,c (i:=3) e,_,rfl,by decide,w (i:=3) e (by decide),pf (s':=(s.1,s.2.1,s.2.2.1,fx s.2.2.2 m)) e rfl fun y k o=>?_⟩
 refine EV (n:=2) (by omega) k fun x d p=>?_
 have q:C7 m s=(fx (nV 2 (s.1,s.2.1,s.2.2.1,fx s.2.2.2 m)).1 m,(nV 2 (s.1,s.2.1,s.2.2.1,fx s.2.2.2 m)).2):=by unfold C7;rfl
 rw[q]at g;generalize nV 2 (s.1,s.2.1,s.2.2.1,fx s.2.2.2 m)=r at d g;refine⟨_,rfl,by decide,_,c (i:=0) d,_,rfl,by decide,w (i:=0) d (by decide),pf (s':=(fx r.1 m,r.2)) d rfl fun v j f=>?_⟩
 exact g _ j (o.tr (p.tr f))
def Da:Nat→ByteArray→Q4→ByteArray×Q4
 |0,s,q=>(s,q)
 |n+1,s,q=>if 8≤s.size then Da n (s.extract 8 s.size) (C7 (BN (s.extract 0 8)) q)else(s,q)
def Ri(r:Q4):Int:=fx (fx (fx r.1 r.2.1) r.2.2.1) r.2.2.2
def Rh(q:Q4):Int:=Ri (nV 4 (q.1,q.2.1,fx q.2.2.1 255,q.2.2.2))
def RG(n:Nat)(g:ByteArray×Q4):Int:=Rh (C7 (MJ (BN g.1) (Rt (n:Int) 56)) g.2)
def Oo(k0 k1:Int)(s:ByteArray):Int:=
 RG s.size (Da s.size s (fx k0 8317987319222330741,fx k1 7237128888997146477,fx k0 7816392313619706465,fx k1 8387220255154660723))
theorem O0{d:ac}{b:Nat}{t:TypeId}{r:Q4}(j:d[b]? =some (.cells (q4 r) t (0,0))) {K:Int→Prop} (g:K (Ri r)):
  (((0:Int)≤(0:Int)∧(0:Int)<((4:Nat):Int))∧
   ∃v30:Int,aB d (adr ⟨b,0,none⟩ ((0:Int).toNat*1))=some (.int .u64 v30)∧
   (((0:Int)≤(1:Int)∧(1:Int)<((4:Nat):Int))∧
    ∃v31:Int,aB d (adr ⟨b,0,none⟩ ((1:Int).toNat*1))=some (.int .u64 v31)∧
    Bd (IntKind.wrap .u64 (ae (IntKind.bits .u64) v30^^^ae (IntKind.bits .u64) v31).toNat:Int) (fun n32=>
     (((0:Int)≤(2:Int)∧(2:Int)<((4:Nat):Int))∧
      ∃v33:Int,aB d (adr ⟨b,0,none⟩ ((2:Int).toNat*1))=some (.int .u64 v33)∧
      Bd (IntKind.wrap .u64 (ae (IntKind.bits .u64) n32^^^ae (IntKind.bits .u64) v33).toNat:Int) (fun e=>
       (((0:Int)≤(3:Int)∧(3:Int)<((4:Nat):Int))∧
        ∃v35:Int,aB d (adr ⟨b,0,none⟩ ((3:Int).toNat*1))=some (.int .u64 v35)∧
        Bd (IntKind.wrap .u64 (ae (IntKind.bits .u64) e^^^ae (IntKind.bits .u64) v35).toNat:Int) (fun f=>
         K f))))))):=by
 have c:∀{i:Nat},aB d ⟨b,0+i,none⟩=(q4 r)[i]?:=by intro i;rw[az];exact aC j
 exact⟨by decide,_,c (i:=0),by decide,_,c (i:=1),by decide,_,c (i:=2),by decide,_,c (i:=3),g⟩
theorem OZ{d:ac}{b:Nat}{t:TypeId}{q:Q4}(g:d[b]? =some (.cells (q4 q) t (0,0))) {K:Unit→ac→Prop}
  (s:∀h',h'[b]? =some (.cells (q4 (nV 4 (q.1,q.2.1,fx q.2.2.1 255,q.2.2.2))) t (0,0))→Upd (· =b) d h'→K () h'):
  (((0:Int)≤(2:Int)∧(2:Int)<((4:Nat):Int))∧
   ∃v25:Int,aB d (adr ⟨b,0,none⟩ ((2:Int).toNat*1))=some (.int .u64 v25)∧
   Bd (IntKind.wrap .u64 (ae (IntKind.bits .u64) v25^^^ae (IntKind.bits .u64) 255).toNat:Int) (fun k=>
    (((0:Int)≤(2:Int)∧(2:Int)<((4:Nat):Int))∧
     (Wr d (adr ⟨b,0,none⟩ ((2:Int).toNat*1))∧
      At (hset d (adr ⟨b,0,none⟩ ((2:Int).toNat*1)) (.int .u64 k)) (fun j=>
       HC PG gR [.pointer (some ⟨b,0,none⟩),.int .i64 4] [] K j))))):=by
 have c:∀{i:Nat},aB d ⟨b,0+i,none⟩=(q4 q)[i]?:=by intro i;rw[az];exact aC g
 refine⟨by decide,_,c (i:=2),by decide,by rw[show((2:Int)).toNat*1=2 from rfl,bC];exact fR g (by simp[q4]),?_⟩
 refine pf (s':=(q.1,q.2.1,fx q.2.2.1 255,q.2.2.2)) g rfl fun u e o=>?_
 exact EV (n:=4) (by omega) e fun p m f=>s p m (o.tr f)
theorem bl{h:ac}{k:ac→Prop}(b:k h):At h k:=b
theorem PK{k0 k1:Int}{s:ByteArray}{h:ac}{K:Int→ac→Prop}(B:∀h',Upd No h h'→K (Oo k0 k1 s) h'):HC PG Bb [.agg #[.int .u64 k0,.int .u64 k1],.string s] [.c (.int .u64)] K h:=by
 refine LG (k0,k1) s ?_;unfold Fx aD bT ad nv bV sN QV QH QK Od;have t:=Upd.hnew No h [.int .u64 k0,.int .u64 k1] j5;have b1:=be h [.int .u64 k0,.int .u64 k1] j5;have H:=gg h [.int .u64 k0,.int .u64 k1] j5;refine bl ?_;simp only[bN h];generalize hnew h [.int .u64 k0,.int .u64 k1] j5=h1 at t b1 H;refine⟨k0,by rw[bC,aC b1];rfl,k1,by rw[bC,aC b1];rfl,k0,by rw[bC,aC b1];rfl,k1,by rw[bC,aC b1];rfl,?_⟩
 have L:=Upd.hnew No h1 [.int .u64 0,.int .u64 0,.int .u64 0,.int .u64 0] iE;have b2:=be h1 [.int .u64 0,.int .u64 0,.int .u64 0,.int .u64 0] iE;simp only[bN h1];simp only[Bd];refine bl ?_;refine⟨.inr ⟨_,rfl,fun j N=>by rw[bC];exact fR b2 (by simp at N⊢;omega)⟩,?_⟩
 refine bl ?_;rw[iz _ _ 0 0 _ b2 (by simp)];have b3:=dU (o:=.cells (q4 (fx k0 8317987319222330741,fx k1 7237128888997146477,fx k0 7816392313619706465,fx k1 8387220255154660723)) iE (0,0)) b2;have F:Upd No h _:=t.tr (L.trans (M':=(· =h1.size)) (Upd.set (hnew h1 [.int .u64 0,.int .u64 0,.int .u64 0,.int .u64 0] iE) (.cells (q4 (fx k0 8317987319222330741,fx k1 7237128888997146477,fx k0 7816392313619706465,fx k1 8387220255154660723)) iE (0,0)) rfl) fun b e=>.inr (Nat.le_of_eq e.symm))
 refine LoopP.ghost (fun(g:Nat×Q4) (d:ByteArray) h'=>d.size≤g.1∧h'[h1.size]? =some (.cells (q4 g.2) iE (0,0))∧Upd No h h'∧Da g.1 d g.2=Da s.size s (fx k0 8317987319222330741,fx k1 7237128888997146477,fx k0 7816392313619706465,fx k1 8387220255154660723)) (fun g=>g.1) (s.size,_)
  ⟨av _,b3,F,rfl⟩ ?_
 rintro I ⟨n,q⟩ d h' ⟨O,e,D,v⟩ P;simp only at O e v;have k:∀b,b=h1.size→No b∨h.size≤b:=fun b e=>.inr (by omega)
 refine ax (fun u=>?_) fun y=>?_
 ·have u:8≤d.size:=by omega
  cases n with
  |zero=>omega
  |succ n=>
   refine⟨by omega,JQ (by rw[ByteArray.size_extract];show min 8 _-0≤8;omega) (JV e fun J f p=>⟨by omega,?_⟩)⟩
   have E:((8:Int)).toNat=8:=rfl;rw[E]at f⊢;refine P (n,C7 (BN (d.extract 0 8)) q) _ _ ⟨by simp only[ByteArray.size_extract];omega,f,D.trans p k,?_⟩ (by simp only;omega);rw[←v];simp only[Da,if_pos u]
 ·have y:d.size<8:=by omega
  have v:(d,q)=Da s.size s (fx k0 8317987319222330741,fx k1 7237128888997146477,fx k0 7816392313619706465,fx k1 8387220255154660723):=by
   rw[←v];cases n with
   |zero=>rfl
   |succ n=>simp only[Da,if_neg (show ¬8≤d.size by omega)]
  have c:∀{h:ac} {s:Q4} {i:Nat},h[h1.size]? =some (.cells (q4 s) iE (0,0))→aB h ⟨h1.size,0+i,none⟩=(q4 s)[i]?:=fun e=>by rw[az];exact aC e
  have w:∀{h:ac} {s:Q4} {i:Nat},h[h1.size]? =some (.cells (q4 s) iE (0,0))→i<4→Wr h ⟨h1.size,0+i,none⟩:=fun e G=>by rw[az];exact fR e G
  have A:Oo k0 k1 s=Rh (C7 (MJ (BN d) (Rt (s.size:Int) 56)) q):=by unfold Oo;rw[←v];rfl
  rw[A]at B;refine JQ (by omega) ⟨by decide,JV (m:=MJ (BN d) (Rt (s.size:Int) 56)) e fun J f p=>?_⟩
  refine OZ f fun C z x=>O0 (K:=fun n=>K n C) z ?_
  exact B C ((D.trans p k).trans x k)
structure Hs where
 k0:Int
 k1:Int
 mask:Int
def jc(h:Hs)(s:ByteArray):Int:=NV (Oo h.k0 h.k1 s) h.mask
theorem CU{x:Hs}{s:ByteArray}{h:ac}{K:Int→ac→Prop}(d:∀h',Upd No h h'→K (jc x s) h'):HC PG gi [.agg #[.int .u64 x.k0,.int .u64 x.k1,.int .u64 x.mask],.string s] [.c (.int .u64)] K h:=by
 refine Af (x.k0,x.k1,x.mask) s ?_;unfold tD ad Hc di QN;have b:=Upd.hnew No h [.int .u64 x.k0,.int .u64 x.k1,.int .u64 x.mask] cc;have b1:=be h [.int .u64 x.k0,.int .u64 x.k1,.int .u64 x.mask] cc;simp only[At,bN h];generalize hnew h [.int .u64 x.k0,.int .u64 x.k1,.int .u64 x.mask] cc=h1 at b b1;refine⟨x.k0,by rw[bC,bC,aC b1];rfl,x.k1,by rw[bC,bC,aC b1];rfl,x.mask,by rw[bC,aC b1];rfl,?_⟩
 refine PK fun e c=>⟨by rw[bC,aC (c.get0 b1)];rfl,d _ (b.tr c)⟩
theorem Hw(x:Hs)(s:ByteArray):0≤jc x s∧jc x s<18446744073709551616:=Ii _
end Go.Proofs
namespace Go.Proofs
open Go Go.Lift
abbrev nY(x:ByteArray×ByteArray):List Value:= [.string x.1,.string x.2]
theorem nX(x:ByteArray×ByteArray):(nY x).length=2∧0<2:=⟨rfl,by omega⟩
theorem xj:∀xs:List (ByteArray×ByteArray),bL (xs.flatMap nY)=true
 | []=>rfl
 |x::xs=>by rw[bv];exact oa rfl (xj xs)
theorem FR{h:ac}{c b o e f d cb:Nat}{j cw:Array Value}{k tb:TypeId}(g:h[c]? =some (.cells j k (0,0))) (p:h[b]? =some (.cells cw tb (0,0))) (q:c≠b) (m:cw.size≠0) {K:Bool→ac→Prop} (n:K false h):
  HC PG gI [.slice (some ⟨c,0,none⟩) e f,.slice (some ⟨b,o,none⟩) d cb] [.c .bool] K h:=by
 refine⟨fun w i=>.inr ⟨.bool false,w,?_,Tame.refl w,false,rfl,i▸n⟩⟩
 subst i;rw[rx];have:=Lib.run_overlaps_apart (P:=PG) w j6 vO ar (by kernel_rfl) (bq PG ar) (pP (by kernel_rfl)) ⟨c,0,none⟩ ⟨b,o,none⟩ e f d cb q k tb j.size cw.size
  (by simp[World.shape?,g]) (by simp[World.shape?,p]) m (by simp[World.frozen?,g]) (by simp[World.frozen?,g])
 rw[show([Value.slice (some ⟨c,0,none⟩) e f,Value.slice (some ⟨b,o,none⟩) d cb]:List Value).toArray= #[.slice (some ⟨c,0,none⟩) e f,.slice (some ⟨b,o,none⟩) d cb]from rfl,this]
 rfl
set_option maxRecDepth 4000 in
theorem Jf{M:Nat→Prop}{h:ac}{s:SliceV}{xs:List (ByteArray×ByteArray)}(V:OwnS nY 2 ar M h s xs){k:Nat}(hkl:k≤xs.length)(hn:(xs.length+1)*32≤140737488355328){x:ByteArray×ByteArray}{n:Nat}(F:h[n]? =some (.cells (nY x).toArray ar (0,0)))
  (W:¬M n) (hM:∀b,h.size≤b→M b) {K:SliceV→ac→Prop} (Y:∀s' h',OwnS nY 2 ar M h' s' (xs.take k++x::xs.drop k)→Upd M h h'→K s' h'):
  HC PG cg [.slice s.a s.len s.cap,.int .i64 k,.slice (some ⟨n,0,none⟩) 1 1] [.c .slice] K h:=by
 refine lL s k ⟨some ⟨n,0,none⟩,1,1⟩ ?_;unfold gj rF;have t:=V.len;have hcap:=V.cap;have H:SRow h (some ⟨n,0,none⟩) (1*2) (nY x):=⟨rfl,.inr ⟨_,rfl,sX F fun i v hi=>by simpa using hi⟩⟩
 refine⟨by omega,aq.2 ?_⟩;refine CondP.intro (fun e=>?_) fun e=>?_
 ·have e:k=xs.length:=by have:=of_decide_eq_true (by simpa using e:decide ((k:Int)=(s.len:Int))=true);omega
  subst e;refine⟨_,H,AppP.own (ys:= [x]) V rfl (by simp) rfl rfl (by omega) (by simp;omega) (hM _ (av _)) fun s' h' ho hu=>Y s' h' ?_ hu⟩
  rw[c8,List.drop_length];exact ho
 have hlt:k<xs.length:=by
  rcases cF k xs.length with h|h
  ·exact h
  ·have:((k:Int)==(s.len:Int))=true:=by rw[beq_iff_eq];omega
   rw[this]at e;cases e
 rcases V.blk with h0|⟨b,m,ha,u,hc,hr⟩
 ·omega
 have g:((xs.take k).flatMap nY).length=k*2:=by rw[jF nX,bi,bw hkl]
 have p:((xs.drop k).flatMap nY).length=(xs.length-k)*2:=by rw[jF nX,aO]
 have O:n≠b:=fun e=>W (e▸u)
 rw[yH (f:=nY) xs k]at hc;have c:(xs.take k++x::xs.drop k).flatMap nY=(xs.take k).flatMap nY++(nY x++(xs.drop k).flatMap nY):=by rw[bX,bv]
 have j:=xj (xs.drop k);have d:(nY x).length=2:=rfl;have z:bL (nY x)=true:=rfl;generalize hAe:(xs.take k).flatMap nY=A at g hc c;generalize hBe:(xs.drop k).flatMap nY=B at p hc c j;generalize nY x=X at H d F c z;rw[ha];have w1:IntKind.wrap .i64 ((xs.length:Int)+((1:Nat):Int))=((xs.length+1:Nat):Int):=by rw[dT (by omega)];omega
 have w2:IntKind.wrap .i64 ((k:Int)+((1:Nat):Int))=((k+1:Nat):Int):=by rw[dT (by omega)];omega
 have w3:IntKind.wrap .i64 (((xs.length+1:Nat):Int)-(k:Int))=((xs.length+1-k:Nat):Int):=by rw[dT (by omega)];omega
 simp only[w1,w2,w3,aU,t];refine ax (fun hgt=>?_) fun hle=>?_
 ·
  have G:s.cap=xs.length:=by omega
  refine Join.plain ⟨by omega,⟨by omega,by omega,by omega,by omega⟩,fun hin=>?_,fun I=>?_⟩
  ·omega
  ·refine⟨A,_,?_,rfl,by omega,Go.growslice_fits I (by omega),fun E D=>?_⟩
   ·rw[sub_zero]
    exact kR hc (by rw[g];omega) (by simp only[dN,fo];rw[aJ,←g,ep (av _),c8])
   ·simp only[aU]at D⊢
    have U:=Upd.hnew No h (A++cS (xs.length+1-k) [.string (⟨#[]⟩:ByteArray),.string (⟨#[]⟩:ByteArray)]++cS (E-(k-0+(xs.length+1-k))) [.string (⟨#[]⟩:ByteArray),.string (⟨#[]⟩:ByteArray)]) ar;have bn:=be h (A++cS (xs.length+1-k) [.string (⟨#[]⟩:ByteArray),.string (⟨#[]⟩:ByteArray)]++cS (E-(k-0+(xs.length+1-k))) [.string (⟨#[]⟩:ByteArray),.string (⟨#[]⟩:ByteArray)]) ar
    have C:(cS (xs.length+1-k) [.string (⟨#[]⟩:ByteArray),.string (⟨#[]⟩:ByteArray)]).length=(xs.length+1-k)*2:=kK _ _;have hz2:(cS (E-(k-0+(xs.length+1-k))) [.string (⟨#[]⟩:ByteArray),.string (⟨#[]⟩:ByteArray)]).length=(E-(k-0+(xs.length+1-k)))*2:=kK _ _;have w:k-0+(xs.length+1-k)=xs.length+1:=by omega
    rw[bN];have hsz:h.size≠n:=fun e=>by have:=aL F;omega
    have N:h.size≠b:=fun e=>by have:=aL hc;omega
    have Q:=U.get0 hc;have T:=U.get0 F;generalize hnew h _ ar=h9 at U bn Q T;rw[w]at D hz2⊢;have m1:cX 1 (xs.length+1-k)=1:=bw (by omega);have m2:cX (xs.length-k) (xs.length+1-(k+1))=xs.length-k:=bw (by omega);rw[m1];have Z:SRow h9 (some ⟨n,0,none⟩) (1*2) X:=kR T (by rw[d]) (by rw[dN,bI];rw[d];omega)
    refine⟨by omega,?_⟩;rw[i7 (by omega)];refine jP Z z bn (by simp only[ai,g,C];omega) fun h11 J o=>⟨by omega,?_⟩
    simp only[Bd];rw[i7 (by omega),i7 (by omega),m2];refine⟨by omega,?_⟩;have y:=o.get Q (fun e=>N e.symm)
    have br:SRow h11 (some ⟨b,0+k*2,none⟩) ((xs.length-k)*2) B:=kR y p (by
     rw[az,aJ,←g,jm,←p,lq])
    refine jP br j J ?_ fun h16 S P=>?_
    ·simp only[ai,bi,aO,g,C,d];omega
    ·refine Y _ _ ⟨by simp;omega,nX,D,.inr ⟨h.size,cS (E-(xs.length+1)) [.string (⟨#[]⟩:ByteArray),.string (⟨#[]⟩:ByteArray)],rfl,hM _ (av _),?_,by rw[kK];rfl⟩⟩ ((U.wide.trans (M':=(· =h.size)) o fun b u=>.inl (u▸hM _ (av _))).trans (M':=(· =h.size)) P fun b u=>.inl (u▸hM _ (av _)))
     rw[S,c];have:=F4 (A:=A) (X:=X) (B:=B) (Z1:=cS (xs.length+1-k) [.string (⟨#[]⟩:ByteArray),.string (⟨#[]⟩:ByteArray)]) (Z2:=cS (E-(xs.length+1)) [.string (⟨#[]⟩:ByteArray),.string (⟨#[]⟩:ByteArray)]) (r:=(xs.length-k)*2) g d (by rw[C,←fC];congr 1;omega);rw[w,←this];simp only[az,fC,qm]
 ·have G:xs.length+1≤s.cap:=by omega
  refine⟨by omega,?_⟩;simp only[Bd,fo];rw[sub_zero,i7 (show s.cap≠k+1 by omega),i7 (show s.cap≠k by omega)]
  refine⟨by omega,?_⟩;have hrl:2≤m.length:=by rw[hr];exact oN _ (by omega)
  refine FR F hc O (by rw[cA,ai];omega) ?_;refine aK.2 ⟨by omega,by omega,?_⟩
  have m1:cX 1 (xs.length+1-k)=1:=bw (by omega);have m2:cX (xs.length+1-k) (xs.length+1-(k+1))=xs.length-k:=by
   rw[show xs.length+1-(k+1)=xs.length-k by omega];exact pw (by omega)
  rw[m2];have br:SRow h (some ⟨b,0+k*2,none⟩) ((xs.length-k)*2) B:=kR hc p (by
   rw[az,aJ,←g,jm,←p,lq])
  refine jP br j hc (by simp only[ai,g,p];omega) fun h1 hb1 L=>⟨by omega,?_⟩
  rw[m1];have xr1:SRow h1 (some ⟨n,0,none⟩) (1*2) X:=kR (L.get F O) (by rw[d]) (by rw[dN,bI];rw[d];omega);refine jP xr1 z hb1 (by simp only[ai,bi,aO,g,p];omega) fun h2 hb2 hu2=>?_
  refine Y _ _ ⟨by simp;omega,nX,G,.inr ⟨b,m.drop 2,rfl,u,?_,?_⟩⟩ ((L.mono fun _ e=>.inl (e▸u)).tr (hu2.mono fun _ e=>.inl (e▸u)))
  ·rw[hb2,c]
   have:=Jh (A:=A) (X:=X) (B:=B) (R:=m) (q:=2) (r:=(xs.length-k)*2) g p hrl;rw[←this];simp only[az,fC,qm]
  ·rw[aO,hr]
   simp only;rw[t];omega
abbrev tT(x:Option Addr):List Value:= [.pointer x]
theorem rL(x:Option Addr):(tT x).length=1∧0<1:=⟨rfl,by omega⟩
theorem CM:∀xs:List (Option Addr),bL (xs.flatMap tT)=true
 | []=>rfl
 |x::xs=>by rw[bv];exact oa rfl (CM xs)
theorem FS{h:ac}{c b o e f d cb:Nat}{j cw:Array Value}{k tb:TypeId}(g:h[c]? =some (.cells j k (0,0))) (p:h[b]? =some (.cells cw tb (0,0))) (q:c≠b) (m:cw.size≠0) {K:Bool→ac→Prop} (n:K false h):
  HC PG gb [.slice (some ⟨c,0,none⟩) e f,.slice (some ⟨b,o,none⟩) d cb] [.c .bool] K h:=by
 refine⟨fun w i=>.inr ⟨.bool false,w,?_,Tame.refl w,false,rfl,i▸n⟩⟩
 subst i;rw[pY];have:=Lib.run_overlaps_apart (P:=PG) w qp vO bd (by kernel_rfl) (bq PG bd) (pP (by kernel_rfl)) ⟨c,0,none⟩ ⟨b,o,none⟩ e f d cb q k tb j.size cw.size
  (by simp[World.shape?,g]) (by simp[World.shape?,p]) m (by simp[World.frozen?,g]) (by simp[World.frozen?,g])
 rw[show([Value.slice (some ⟨c,0,none⟩) e f,Value.slice (some ⟨b,o,none⟩) d cb]:List Value).toArray= #[.slice (some ⟨c,0,none⟩) e f,.slice (some ⟨b,o,none⟩) d cb]from rfl,this]
 rfl
set_option maxRecDepth 4000 in
theorem Jg{M:Nat→Prop}{h:ac}{s:SliceV}{xs:List (Option Addr)}(V:OwnS tT 1 bd M h s xs){k:Nat}(hkl:k≤xs.length)(hn:(xs.length+1)*8≤140737488355328){x:Option Addr}{n:Nat}(F:h[n]? =some (.cells (tT x).toArray bd (0,0)))
  (W:¬M n) (hM:∀b,h.size≤b→M b) {K:SliceV→ac→Prop} (Y:∀s' h',OwnS tT 1 bd M h' s' (xs.take k++x::xs.drop k)→Upd M h h'→K s' h'):
  HC PG bR [.slice s.a s.len s.cap,.int .i64 k,.slice (some ⟨n,0,none⟩) 1 1] [.c .slice] K h:=by
 refine jR s k ⟨some ⟨n,0,none⟩,1,1⟩ ?_;unfold fz;have t:=V.len;have hcap:=V.cap;have H:SRow h (some ⟨n,0,none⟩) (1*1) (tT x):=⟨rfl,.inr ⟨_,rfl,sX F fun i v hi=>by simpa using hi⟩⟩
 refine⟨by omega,aq.2 ?_⟩;refine CondP.intro (fun e=>?_) fun e=>?_
 ·have e:k=xs.length:=by have:=of_decide_eq_true (by simpa using e:decide ((k:Int)=(s.len:Int))=true);omega
  subst e;refine⟨_,H,AppP.own (ys:= [x]) V rfl (by simp) rfl rfl (by omega) (by simp;omega) (hM _ (av _)) fun s' h' ho hu=>Y s' h' ?_ hu⟩
  rw[c8,List.drop_length];exact ho
 have hlt:k<xs.length:=by
  rcases cF k xs.length with h|h
  ·exact h
  ·have:((k:Int)==(s.len:Int))=true:=by rw[beq_iff_eq];omega
   rw[this]at e;cases e
 rcases V.blk with h0|⟨b,m,ha,u,hc,hr⟩
 ·omega
 have g:((xs.take k).flatMap tT).length=k*1:=by rw[jF rL,bi,bw hkl]
 have p:((xs.drop k).flatMap tT).length=(xs.length-k)*1:=by rw[jF rL,aO]
 have O:n≠b:=fun e=>W (e▸u)
 rw[yH (f:=tT) xs k]at hc;have c:(xs.take k++x::xs.drop k).flatMap tT=(xs.take k).flatMap tT++(tT x++(xs.drop k).flatMap tT):=by rw[bX,bv]
 have j:=CM (xs.drop k);have d:(tT x).length=1:=rfl;have z:bL (tT x)=true:=rfl;generalize hAe:(xs.take k).flatMap tT=A at g hc c;generalize hBe:(xs.drop k).flatMap tT=B at p hc c j;generalize tT x=X at H d F c z;rw[ha];have w1:IntKind.wrap .i64 ((xs.length:Int)+((1:Nat):Int))=((xs.length+1:Nat):Int):=by rw[dT (by omega)];omega
 have w2:IntKind.wrap .i64 ((k:Int)+((1:Nat):Int))=((k+1:Nat):Int):=by rw[dT (by omega)];omega
 have w3:IntKind.wrap .i64 (((xs.length+1:Nat):Int)-(k:Int))=((xs.length+1-k:Nat):Int):=by rw[dT (by omega)];omega
 simp only[w1,w2,w3,aU,t];refine ax (fun hgt=>?_) fun hle=>?_
 ·
  have G:s.cap=xs.length:=by omega
  refine Join.plain ⟨by omega,⟨by omega,by omega,by omega,by omega⟩,fun hin=>?_,fun I=>?_⟩
  ·omega
  ·refine⟨A,_,?_,rfl,by omega,Go.growslice_fits I (by omega),fun E D=>?_⟩
   ·rw[sub_zero]
    exact kR hc (by rw[g];omega) (by simp only[dN,fo];rw[aJ,←g,ep (av _),c8])
   ·simp only[aU]at D⊢
    have U:=Upd.hnew No h (A++cS (xs.length+1-k) [.pointer none]++cS (E-(k-0+(xs.length+1-k))) [.pointer none]) bd;have bn:=be h (A++cS (xs.length+1-k) [.pointer none]++cS (E-(k-0+(xs.length+1-k))) [.pointer none]) bd;have C:(cS (xs.length+1-k) [.pointer none]).length=(xs.length+1-k)*1:=kK _ _;have hz2:(cS (E-(k-0+(xs.length+1-k))) [.pointer none]).length=(E-(k-0+(xs.length+1-k)))*1:=kK _ _
    have w:k-0+(xs.length+1-k)=xs.length+1:=by omega
    rw[bN];have hsz:h.size≠n:=fun e=>by have:=aL F;omega
    have N:h.size≠b:=fun e=>by have:=aL hc;omega
    have Q:=U.get0 hc;have T:=U.get0 F;generalize hnew h _ bd=h9 at U bn Q T;rw[w]at D hz2⊢;have m1:cX 1 (xs.length+1-k)=1:=bw (by omega);have m2:cX (xs.length-k) (xs.length+1-(k+1))=xs.length-k:=bw (by omega);rw[m1];have Z:SRow h9 (some ⟨n,0,none⟩) (1*1) X:=kR T (by rw[d]) (by rw[dN,bI];rw[d];omega)
    refine⟨by omega,?_⟩;rw[i7 (by omega)];refine jP Z z bn (by simp only[ai,g,C];omega) fun h11 J o=>⟨by omega,?_⟩
    simp only[Bd];rw[i7 (by omega),i7 (by omega),m2];refine⟨by omega,?_⟩;have y:=o.get Q (fun e=>N e.symm)
    have br:SRow h11 (some ⟨b,0+k*1,none⟩) ((xs.length-k)*1) B:=kR y p (by
     rw[az,aJ,←g,jm,←p,lq])
    refine jP br j J ?_ fun h16 S P=>?_
    ·simp only[ai,bi,aO,g,C,d];omega
    ·refine Y _ _ ⟨by simp;omega,rL,D,.inr ⟨h.size,cS (E-(xs.length+1)) [.pointer none],rfl,hM _ (av _),?_,by rw[kK];rfl⟩⟩ ((U.wide.trans (M':=(· =h.size)) o fun b u=>.inl (u▸hM _ (av _))).trans (M':=(· =h.size)) P fun b u=>.inl (u▸hM _ (av _)))
     rw[S,c];have:=F4 (A:=A) (X:=X) (B:=B) (Z1:=cS (xs.length+1-k) [.pointer none]) (Z2:=cS (E-(xs.length+1)) [.pointer none]) (r:=(xs.length-k)*1) g d (by rw[C,←fC];congr 1;omega);rw[w,←this];simp only[az,fC,qm]
 ·have G:xs.length+1≤s.cap:=by omega
  refine⟨by omega,?_⟩;simp only[Bd,fo];rw[sub_zero,i7 (show s.cap≠k+1 by omega),i7 (show s.cap≠k by omega)]
  refine⟨by omega,?_⟩;have hrl:1≤m.length:=by rw[hr];exact oN _ (by omega)
  refine FS F hc O (by rw[cA,ai];omega) ?_;refine aK.2 ⟨by omega,by omega,?_⟩
  have m1:cX 1 (xs.length+1-k)=1:=bw (by omega);have m2:cX (xs.length+1-k) (xs.length+1-(k+1))=xs.length-k:=by
   rw[show xs.length+1-(k+1)=xs.length-k by omega];exact pw (by omega)
  rw[m2];have br:SRow h (some ⟨b,0+k*1,none⟩) ((xs.length-k)*1) B:=kR hc p (by
   rw[az,aJ,←g,jm,←p,lq])
  refine jP br j hc (by simp only[ai,g,p];omega) fun h1 hb1 L=>⟨by omega,?_⟩
  rw[m1];have xr1:SRow h1 (some ⟨n,0,none⟩) (1*1) X:=kR (L.get F O) (by rw[d]) (by rw[dN,bI];rw[d];omega);refine jP xr1 z hb1 (by simp only[ai,bi,aO,g,p];omega) fun h2 hb2 hu2=>?_
  refine Y _ _ ⟨by simp;omega,rL,G,.inr ⟨b,m.drop 1,rfl,u,?_,?_⟩⟩ ((L.mono fun _ e=>.inl (e▸u)).tr (hu2.mono fun _ e=>.inl (e▸u)))
  ·rw[hb2,c]
   have:=Jh (A:=A) (X:=X) (B:=B) (R:=m) (q:=1) (r:=(xs.length-k)*1) g p hrl;rw[←this];simp only[az,fC,qm]
  ·rw[aO,hr]
   simp only;rw[t];omega
abbrev Cr(x:Option Addr):List Value:= [.pointer x]
theorem rH(x:Option Addr):(Cr x).length=1∧0<1:=⟨rfl,by omega⟩
theorem FT:∀xs:List (Option Addr),bL (xs.flatMap Cr)=true
 | []=>rfl
 |x::xs=>by rw[bv];exact oa rfl (FT xs)
theorem FQ{h:ac}{c b o e f d cb:Nat}{j cw:Array Value}{k tb:TypeId}(g:h[c]? =some (.cells j k (0,0))) (p:h[b]? =some (.cells cw tb (0,0))) (q:c≠b) (m:cw.size≠0) {K:Bool→ac→Prop} (n:K false h):
  HC PG fV [.slice (some ⟨c,0,none⟩) e f,.slice (some ⟨b,o,none⟩) d cb] [.c .bool] K h:=by
 refine⟨fun w i=>.inr ⟨.bool false,w,?_,Tame.refl w,false,rfl,i▸n⟩⟩
 subst i;rw[po];have:=Lib.run_overlaps_apart (P:=PG) w pc vO bf (by kernel_rfl) (bq PG bf) (pP (by kernel_rfl)) ⟨c,0,none⟩ ⟨b,o,none⟩ e f d cb q k tb j.size cw.size
  (by simp[World.shape?,g]) (by simp[World.shape?,p]) m (by simp[World.frozen?,g]) (by simp[World.frozen?,g])
 rw[show([Value.slice (some ⟨c,0,none⟩) e f,Value.slice (some ⟨b,o,none⟩) d cb]:List Value).toArray= #[.slice (some ⟨c,0,none⟩) e f,.slice (some ⟨b,o,none⟩) d cb]from rfl,this]
 rfl
set_option maxRecDepth 4000 in
theorem Je{M:Nat→Prop}{h:ac}{s:SliceV}{xs:List (Option Addr)}(V:OwnS Cr 1 bf M h s xs){k:Nat}(hkl:k≤xs.length)(hn:(xs.length+1)*8≤140737488355328){x:Option Addr}{n:Nat}(F:h[n]? =some (.cells (Cr x).toArray bf (0,0)))
  (W:¬M n) (hM:∀b,h.size≤b→M b) {K:SliceV→ac→Prop} (Y:∀s' h',OwnS Cr 1 bf M h' s' (xs.take k++x::xs.drop k)→Upd M h h'→K s' h'):
  HC PG dd [.slice s.a s.len s.cap,.int .i64 k,.slice (some ⟨n,0,none⟩) 1 1] [.c .slice] K h:=by
 refine jn s k ⟨some ⟨n,0,none⟩,1,1⟩ ?_;unfold fe;have t:=V.len;have hcap:=V.cap;have H:SRow h (some ⟨n,0,none⟩) (1*1) (Cr x):=⟨rfl,.inr ⟨_,rfl,sX F fun i v hi=>by simpa using hi⟩⟩
 refine⟨by omega,aq.2 ?_⟩;refine CondP.intro (fun e=>?_) fun e=>?_
 ·have e:k=xs.length:=by have:=of_decide_eq_true (by simpa using e:decide ((k:Int)=(s.len:Int))=true);omega
  subst e;refine⟨_,H,AppP.own (ys:= [x]) V rfl (by simp) rfl rfl (by omega) (by simp;omega) (hM _ (av _)) fun s' h' ho hu=>Y s' h' ?_ hu⟩
  rw[c8,List.drop_length];exact ho
 have hlt:k<xs.length:=by
  rcases cF k xs.length with h|h
  ·exact h
  ·have:((k:Int)==(s.len:Int))=true:=by rw[beq_iff_eq];omega
   rw[this]at e;cases e
 rcases V.blk with h0|⟨b,m,ha,u,hc,hr⟩
 ·omega
 have g:((xs.take k).flatMap Cr).length=k*1:=by rw[jF rH,bi,bw hkl]
 have p:((xs.drop k).flatMap Cr).length=(xs.length-k)*1:=by rw[jF rH,aO]
 have O:n≠b:=fun e=>W (e▸u)
 rw[yH (f:=Cr) xs k]at hc;have c:(xs.take k++x::xs.drop k).flatMap Cr=(xs.take k).flatMap Cr++(Cr x++(xs.drop k).flatMap Cr):=by rw[bX,bv]
 have j:=FT (xs.drop k);have d:(Cr x).length=1:=rfl;have z:bL (Cr x)=true:=rfl;generalize hAe:(xs.take k).flatMap Cr=A at g hc c;generalize hBe:(xs.drop k).flatMap Cr=B at p hc c j;generalize Cr x=X at H d F c z;rw[ha];have w1:IntKind.wrap .i64 ((xs.length:Int)+((1:Nat):Int))=((xs.length+1:Nat):Int):=by rw[dT (by omega)];omega
 have w2:IntKind.wrap .i64 ((k:Int)+((1:Nat):Int))=((k+1:Nat):Int):=by rw[dT (by omega)];omega
 have w3:IntKind.wrap .i64 (((xs.length+1:Nat):Int)-(k:Int))=((xs.length+1-k:Nat):Int):=by rw[dT (by omega)];omega
 simp only[w1,w2,w3,aU,t];refine ax (fun hgt=>?_) fun hle=>?_
 ·
  have G:s.cap=xs.length:=by omega
  refine Join.plain ⟨by omega,⟨by omega,by omega,by omega,by omega⟩,fun hin=>?_,fun I=>?_⟩
  ·omega
  ·refine⟨A,_,?_,rfl,by omega,Go.growslice_fits I (by omega),fun E D=>?_⟩
   ·rw[sub_zero]
    exact kR hc (by rw[g];omega) (by simp only[dN,fo];rw[aJ,←g,ep (av _),c8])
   ·simp only[aU]at D⊢
    have U:=Upd.hnew No h (A++cS (xs.length+1-k) [.pointer none]++cS (E-(k-0+(xs.length+1-k))) [.pointer none]) bf;have bn:=be h (A++cS (xs.length+1-k) [.pointer none]++cS (E-(k-0+(xs.length+1-k))) [.pointer none]) bf;have C:(cS (xs.length+1-k) [.pointer none]).length=(xs.length+1-k)*1:=kK _ _;have hz2:(cS (E-(k-0+(xs.length+1-k))) [.pointer none]).length=(E-(k-0+(xs.length+1-k)))*1:=kK _ _
    have w:k-0+(xs.length+1-k)=xs.length+1:=by omega
    rw[bN];have hsz:h.size≠n:=fun e=>by have:=aL F;omega
    have N:h.size≠b:=fun e=>by have:=aL hc;omega
    have Q:=U.get0 hc;have T:=U.get0 F;generalize hnew h _ bf=h9 at U bn Q T;rw[w]at D hz2⊢;have m1:cX 1 (xs.length+1-k)=1:=bw (by omega);have m2:cX (xs.length-k) (xs.length+1-(k+1))=xs.length-k:=bw (by omega);rw[m1];have Z:SRow h9 (some ⟨n,0,none⟩) (1*1) X:=kR T (by rw[d]) (by rw[dN,bI];rw[d];omega)
    refine⟨by omega,?_⟩;rw[i7 (by omega)];refine jP Z z bn (by simp only[ai,g,C];omega) fun h11 J o=>⟨by omega,?_⟩
    simp only[Bd];rw[i7 (by omega),i7 (by omega),m2];refine⟨by omega,?_⟩;have y:=o.get Q (fun e=>N e.symm)
    have br:SRow h11 (some ⟨b,0+k*1,none⟩) ((xs.length-k)*1) B:=kR y p (by
     rw[az,aJ,←g,jm,←p,lq])
    refine jP br j J ?_ fun h16 S P=>?_
    ·simp only[ai,bi,aO,g,C,d];omega
    ·refine Y _ _ ⟨by simp;omega,rH,D,.inr ⟨h.size,cS (E-(xs.length+1)) [.pointer none],rfl,hM _ (av _),?_,by rw[kK];rfl⟩⟩ ((U.wide.trans (M':=(· =h.size)) o fun b u=>.inl (u▸hM _ (av _))).trans (M':=(· =h.size)) P fun b u=>.inl (u▸hM _ (av _)))
     rw[S,c];have:=F4 (A:=A) (X:=X) (B:=B) (Z1:=cS (xs.length+1-k) [.pointer none]) (Z2:=cS (E-(xs.length+1)) [.pointer none]) (r:=(xs.length-k)*1) g d (by rw[C,←fC];congr 1;omega);rw[w,←this];simp only[az,fC,qm]
 ·have G:xs.length+1≤s.cap:=by omega
  refine⟨by omega,?_⟩;simp only[Bd,fo];rw[sub_zero,i7 (show s.cap≠k+1 by omega),i7 (show s.cap≠k by omega)]
  refine⟨by omega,?_⟩;have hrl:1≤m.length:=by rw[hr];exact oN _ (by omega)
  refine FQ F hc O (by rw[cA,ai];omega) ?_;refine aK.2 ⟨by omega,by omega,?_⟩
  have m1:cX 1 (xs.length+1-k)=1:=bw (by omega);have m2:cX (xs.length+1-k) (xs.length+1-(k+1))=xs.length-k:=by
   rw[show xs.length+1-(k+1)=xs.length-k by omega];exact pw (by omega)
  rw[m2];have br:SRow h (some ⟨b,0+k*1,none⟩) ((xs.length-k)*1) B:=kR hc p (by
   rw[az,aJ,←g,jm,←p,lq])
  refine jP br j hc (by simp only[ai,g,p];omega) fun h1 hb1 L=>⟨by omega,?_⟩
  rw[m1];have xr1:SRow h1 (some ⟨n,0,none⟩) (1*1) X:=kR (L.get F O) (by rw[d]) (by rw[dN,bI];rw[d];omega);refine jP xr1 z hb1 (by simp only[ai,bi,aO,g,p];omega) fun h2 hb2 hu2=>?_
  refine Y _ _ ⟨by simp;omega,rH,G,.inr ⟨b,m.drop 1,rfl,u,?_,?_⟩⟩ ((L.mono fun _ e=>.inl (e▸u)).tr (hu2.mono fun _ e=>.inl (e▸u)))
  ·rw[hb2,c]
   have:=Jh (A:=A) (X:=X) (B:=B) (R:=m) (q:=1) (r:=(xs.length-k)*1) g p hrl;rw[←this];simp only[az,fC,qm]
  ·rw[aO,hr]
   simp only;rw[t];omega
end Go.Proofs
namespace Go.Proofs
open Go Go.Lift
theorem Be{W:Nat→Prop}{h:ac}{s:SliceV}{xs:List (ByteArray×ByteArray)}(d:Sl nY 2 W h s xs)(k:xs.length*32≤140737488355328){K:SliceV→ac→Prop}
  (g:∀s' h',OwnS nY 2 ar (fun b=>h.size≤b) h' s' xs→Upd No h h'→K s' h'):HC PG cW [.slice s.a s.len s.cap] [.c .slice] K h:=by
 refine l6 s ?_;unfold gG rF;refine CondP.intro (fun c=>?_) (fun n=>?_)
 ·have c:s.a=none:=by simpa using c
  have hx:xs= []:=by
   by_cases hx:xs= []
   ·exact hx
   ·obtain⟨a,e,_⟩:=d.row hx
    rw[c]at e;cases e
  subst hx;exact g _ _ (OwnS.nil nX) (Upd.refl _ _)
 ·have m:=d.upd (Upd.hnew No h [] ar) (fun _ h=>h.elim)
  refine⟨_,m.srow,?_⟩;refine AppP.own (f:=nY) (M:=fun b=>h.size≤b) (xs:= []) (ys:=xs) ⟨rfl,nX,av _,.inl rfl⟩ d.len rfl (xj xs) rfl (by omega) (by simpa using k) (by rw[gg];omega) fun s' h' o i=>?_
  exact g _ _ o ((Upd.hnew No h [] ar).trans i fun b j=>.inr j)
theorem Jw{M:Nat→Prop}{h:ac}{s:SliceV}{xs:List (ByteArray×ByteArray)}(x:OwnS nY 2 ar M h s xs){k:Nat}(w:k<xs.length)(R:xs.length≤4398046511104)
  {K:SliceV→ac→Prop}(F:∀s' h',OwnS nY 2 ar M h' s' (xs.take k++xs.drop (k+1))→Upd M h h'→K s' h'):
  HC PG dV [.slice s.a s.len s.cap,.int .i64 k,.int .i64 ((k+1:Nat):Int)] [.c .slice] K h:=by
 refine lM s k ((k+1:Nat):Int) ?_;unfold gk rF;have g:=x.len;have E:=x.cap;rcases x.blk with O|⟨b,c,J,C,hc,H⟩
 ·omega
 have q:((xs.take k).flatMap nY).length=k*2:=by rw[jF nX,bi,bw (by omega)]
 have n:((xs.drop (k+1)).flatMap nY).length=(xs.length-(k+1))*2:=by rw[jF nX,aO]
 have G:xs.flatMap nY=(xs.take k).flatMap nY++(nY xs[k]++(xs.drop (k+1)).flatMap nY):=by
  rw[←bv,←lV w];exact yH xs k
 rw[G]at hc;have f:=xj (xs.drop (k+1));have d:(xs.take k++xs.drop (k+1)).flatMap nY=(xs.take k).flatMap nY++(xs.drop (k+1)).flatMap nY:=bX;have N:(nY xs[k]).length=2:=rfl;generalize (xs.take k).flatMap nY=A at q hc d;generalize (xs.drop (k+1)).flatMap nY=B at n hc f d;generalize nY xs[k]=X at N hc;rw[J];simp only[g,aU];refine⟨by omega,by omega,by omega,CondP.intro (fun e=>?_) fun _=>?_⟩
 ·have:(k:Int)=((k+1:Nat):Int):=by simpa using e
  omega
 refine Join.plain ⟨by omega,by omega,B,?_,?_⟩
 ·by_cases m:xs.length=k+1
  ·exact⟨n,.inl (bU.1 (by rw[n,m,vo,Nat.zero_mul]))⟩
  rw[i7 (by omega)];refine kR hc n ?_;have:(A++X).length=0+(k+1)*2:=by rw[ai];omega
  rw[show A++(X++B)++c=(A++X)++(B++c) by simp only[aJ],bZ this,cK n]
 ·rw[sub_zero]
  refine NS hc (by simp only[ai];omega) (by omega) f fun Q i y=>?_
  have t:c.length=(s.cap-xs.length)*2:=by rw[H,g]
  refine⟨by dsimp only;omega,by dsimp only;omega,?_⟩
  simp only[Bd];rw[i7 (by omega)];have I:xs.length-(k-0+(xs.length-(k+1)))=1:=by omega
  have z:(A++(X++B)++c).drop ((k-0)*2+B.length)=(X++B).drop B.length++c:=by
   rw[aJ,←cR,bZ (show A.length=(k-0)*2 by rw[q,fo]),ge (by rw[ai];omega)]
  have v:(A++(X++B)++c).take ((k-0)*2)=A:=by rw[aJ,cK (show A.length=(k-0)*2 by rw[q,fo])]
  rw[z,v]at i;have o:((X++B).drop B.length).length=2:=by rw[aO,ai];omega
  generalize (X++B).drop B.length=D at o i;rw[I];have L:(cS 1 [.string (⟨#[]⟩:ByteArray),.string (⟨#[]⟩:ByteArray)]).length=2:=rfl;have j:(A++B).length=0+(k-0+(xs.length-(k+1)))*2:=by rw[ai,q,n];omega
  refine FO i (by simp only[ai]at j⊢;omega) fun P p u=>?_
  rw[cK j,←cR,bZ j]at p;refine F _ _ ⟨by simp;omega,nX,by simp only;omega,.inr ⟨b,cS 1 [.string (⟨#[]⟩:ByteArray),.string (⟨#[]⟩:ByteArray)]++(D++c).drop (cS 1 [.string (⟨#[]⟩:ByteArray),.string (⟨#[]⟩:ByteArray)]).length,rfl,C,?_,?_⟩⟩ ((y.mono fun _ e=>.inl (e▸C)).tr (u.mono fun _ e=>.inl (e▸C)))
  ·rw[p,d];simp only[aJ]
  ·simp only[ai,aO,L,o,t]
   omega
theorem Fs{W:Nat→Prop}{h:ac}{s:SliceV}{xs:List (Option Addr)}(d:Sl tT 1 W h s xs)(k:xs.length*8≤140737488355328){K:SliceV→ac→Prop}
  (g:∀s' h',OwnS tT 1 bd (fun b=>h.size≤b) h' s' xs→Upd No h h'→K s' h'):HC PG dy [.slice s.a s.len s.cap] [.c .slice] K h:=by
 refine kf s ?_;unfold fQ;refine CondP.intro (fun c=>?_) (fun n=>?_)
 ·have c:s.a=none:=by simpa using c
  have hx:xs= []:=by
   by_cases hx:xs= []
   ·exact hx
   ·obtain⟨a,e,_⟩:=d.row hx
    rw[c]at e;cases e
  subst hx;exact g _ _ (OwnS.nil rL) (Upd.refl _ _)
 ·have m:=d.upd (Upd.hnew No h [] bd) (fun _ h=>h.elim)
  refine⟨_,m.srow,?_⟩;refine AppP.own (f:=tT) (M:=fun b=>h.size≤b) (xs:= []) (ys:=xs) ⟨rfl,rL,av _,.inl rfl⟩ d.len rfl (CM xs) rfl (by omega) (by simpa using k) (by rw[gg];omega) fun s' h' o i=>?_
  exact g _ _ o ((Upd.hnew No h [] bd).trans i fun b j=>.inr j)
theorem Jx{M:Nat→Prop}{h:ac}{s:SliceV}{xs:List (Option Addr)}(x:OwnS tT 1 bd M h s xs){k:Nat}(w:k<xs.length)(R:xs.length≤4398046511104)
  {K:SliceV→ac→Prop}(F:∀s' h',OwnS tT 1 bd M h' s' (xs.take k++xs.drop (k+1))→Upd M h h'→K s' h'):
  HC PG dt [.slice s.a s.len s.cap,.int .i64 k,.int .i64 ((k+1:Nat):Int)] [.c .slice] K h:=by
 refine jT s k ((k+1:Nat):Int) ?_;unfold fA;have g:=x.len;have E:=x.cap;rcases x.blk with O|⟨b,c,J,C,hc,H⟩
 ·omega
 have q:((xs.take k).flatMap tT).length=k*1:=by rw[jF rL,bi,bw (by omega)]
 have n:((xs.drop (k+1)).flatMap tT).length=(xs.length-(k+1))*1:=by rw[jF rL,aO]
 have G:xs.flatMap tT=(xs.take k).flatMap tT++(tT xs[k]++(xs.drop (k+1)).flatMap tT):=by
  rw[←bv,←lV w];exact yH xs k
 rw[G]at hc;have f:=CM (xs.drop (k+1));have d:(xs.take k++xs.drop (k+1)).flatMap tT=(xs.take k).flatMap tT++(xs.drop (k+1)).flatMap tT:=bX;have N:(tT xs[k]).length=1:=rfl;generalize (xs.take k).flatMap tT=A at q hc d;generalize (xs.drop (k+1)).flatMap tT=B at n hc f d;generalize tT xs[k]=X at N hc;rw[J];simp only[g,aU];refine⟨by omega,by omega,by omega,CondP.intro (fun e=>?_) fun _=>?_⟩
 ·have:(k:Int)=((k+1:Nat):Int):=by simpa using e
  omega
 refine Join.plain ⟨by omega,by omega,B,?_,?_⟩
 ·by_cases m:xs.length=k+1
  ·exact⟨n,.inl (bU.1 (by rw[n,m,vo,Nat.zero_mul]))⟩
  rw[i7 (by omega)];refine kR hc n ?_;have:(A++X).length=0+(k+1)*1:=by rw[ai];omega
  rw[show A++(X++B)++c=(A++X)++(B++c) by simp only[aJ],bZ this,cK n]
 ·rw[sub_zero]
  refine NS hc (by simp only[ai];omega) (by omega) f fun Q i y=>?_
  have t:c.length=(s.cap-xs.length)*1:=by rw[H,g]
  refine⟨by dsimp only;omega,by dsimp only;omega,?_⟩
  simp only[Bd];rw[i7 (by omega)];have I:xs.length-(k-0+(xs.length-(k+1)))=1:=by omega
  have z:(A++(X++B)++c).drop ((k-0)*1+B.length)=(X++B).drop B.length++c:=by
   rw[aJ,←cR,bZ (show A.length=(k-0)*1 by rw[q,fo]),ge (by rw[ai];omega)]
  have v:(A++(X++B)++c).take ((k-0)*1)=A:=by rw[aJ,cK (show A.length=(k-0)*1 by rw[q,fo])]
  rw[z,v]at i;have o:((X++B).drop B.length).length=1:=by rw[aO,ai];omega
  generalize (X++B).drop B.length=D at o i;rw[I];have L:(cS 1 [.pointer none]).length=1:=rfl;have j:(A++B).length=0+(k-0+(xs.length-(k+1)))*1:=by rw[ai,q,n];omega
  refine FO i (by simp only[ai]at j⊢;omega) fun P p u=>?_
  rw[cK j,←cR,bZ j]at p;refine F _ _ ⟨by simp;omega,rL,by simp only;omega,.inr ⟨b,cS 1 [.pointer none]++(D++c).drop (cS 1 [.pointer none]).length,rfl,C,?_,?_⟩⟩ ((y.mono fun _ e=>.inl (e▸C)).tr (u.mono fun _ e=>.inl (e▸C)))
  ·rw[p,d];simp only[aJ]
  ·simp only[ai,aO,L,o,t]
   omega
theorem Lv{W:Nat→Prop}{h:ac}{s:SliceV}{xs:List (Option Addr)}(d:Sl Cr 1 W h s xs)(k:xs.length*8≤140737488355328){K:SliceV→ac→Prop}
  (g:∀s' h',OwnS Cr 1 bf (fun b=>h.size≤b) h' s' xs→Upd No h h'→K s' h'):HC PG dh [.slice s.a s.len s.cap] [.c .slice] K h:=by
 refine jG s ?_;unfold fl;refine CondP.intro (fun c=>?_) (fun n=>?_)
 ·have c:s.a=none:=by simpa using c
  have hx:xs= []:=by
   by_cases hx:xs= []
   ·exact hx
   ·obtain⟨a,e,_⟩:=d.row hx
    rw[c]at e;cases e
  subst hx;exact g _ _ (OwnS.nil rH) (Upd.refl _ _)
 ·have m:=d.upd (Upd.hnew No h [] bf) (fun _ h=>h.elim)
  refine⟨_,m.srow,?_⟩;refine AppP.own (f:=Cr) (M:=fun b=>h.size≤b) (xs:= []) (ys:=xs) ⟨rfl,rH,av _,.inl rfl⟩ d.len rfl (FT xs) rfl (by omega) (by simpa using k) (by rw[gg];omega) fun s' h' o i=>?_
  exact g _ _ o ((Upd.hnew No h [] bf).trans i fun b j=>.inr j)
end Go.Proofs
namespace Go.Proofs
open Go.Lift
abbrev Pr:=ByteArray×ByteArray
theorem Bf{a b:ByteArray}:a.toList=b.toList↔a=b:=by
 constructor
 ·intro h
  rw[ByteArray.toList_eq,ByteArray.toList_eq]at h;cases a;cases b;simp at h;subst h;rfl
 ·rintro rfl;rfl
def kl(a b:ByteArray):Prop:=Op.bytesLess a.toList b.toList=true
instance (a b:ByteArray):Decidable (kl a b):=inferInstanceAs (Decidable (_=true))
theorem MX{a b:ByteArray}:kl a b↔a.toList<b.toList:=by unfold kl;rw[bytesLess_eq,decide_eq_true_iff]
theorem fS(a:ByteArray):¬kl a a:=by rw[MX];exact List.lt_irrefl _
theorem rM{a b c:ByteArray}(h:kl a b)(k:kl b c):kl a c:=by rw[MX]at*;exact List.lt_trans h k
theorem tri:∀x y:List UInt8,Op.bytesLess x y=false→x≠y→Op.bytesLess y x=true
 | [],[],_,h=>absurd rfl h
 | [],_::_,h,_=>by simp[Op.bytesLess]at h
 |_::_,[],_,_=>rfl
 |a::x,b::y,h,hn=>by
  simp only[Op.bytesLess,Bool.or_eq_false_iff,decide_eq_false_iff_not,Bool.and_eq_false_iff]at h;simp only[Op.bytesLess,Bool.or_eq_true,decide_eq_true_iff,Bool.and_eq_true];by_cases e:a=b
  ·subst e
   right;refine⟨by simp,tri x y ?_ fun e=>hn (by rw[e])⟩
   rcases h.2 with h|h
   ·simp at h
   ·exact h
  ·left
   have c:=h.1;rw[UInt8.lt_iff_toNat_lt]at c⊢;have:a.toNat≠b.toNat:=fun h=>e (UInt8.toNat_inj.1 h)
   omega
theorem F3{a b:ByteArray}(h:¬kl a b)(k:a≠b):kl b a:=tri _ _ (by unfold kl at h;simpa using h) fun e=>k (Bf.1 e)
def Gh(a b:ByteArray):Int:=if kl a b then-1 else if a=b then 0 else 1
theorem Hq{x:ByteArray}{h:ac}{K:Bool→ac→Prop}(b:K false h):HC PG mK [.string x] [.c .bool] K h:=by
 refine CG x ?_;unfold vE;simpa using b
theorem DS{a b:ByteArray}{h:ac}{K:Int→ac→Prop}(c:K (Gh a b) h):HC PG kB [.string a,.string b] [.c (.int .i64)] K h:=by
 refine Ar a b ?_;unfold tO;refine Hq (Hq (aq.2 (aq.2 ?_)));unfold Gh at c;refine CondP.intro (fun e=>?_) fun e=>?_
 ·rw[if_pos (show kl a b from e)]at c;exact c
 ·have f:¬kl a b:=fun h=>by rw[show Op.bytesLess a.toList b.toList=true from h]at e;cases e
  rw[if_neg f]at c;rw[e];refine CondP.intro (fun d=>?_) fun d=>?_
  ·rw[if_neg (fun h=>by subst h;simp at d)]at c;exact c
  ·have:a.toList=b.toList:=by simpa using d
   rw[if_pos (Bf.1 this)]at c;exact c
theorem MI{p:Pr}{k:ByteArray}{h:ac}{K:Int→ac→Prop}(b:∀h',Upd No h h'→K (Gh p.1 k) h'):HC PG ru [.agg #[.string p.1,.string p.2],.string k] [.c (.int .i64)] K h:=by
 refine Gw p k ?_;unfold Ax aw rm mU;have b1:=be h [.string p.1,.string p.2] ar;refine⟨p.1,by rw[bN,bC,aC b1];rfl,DS (b _ (Upd.hnew No h _ _))⟩
abbrev fk(l:List Pr):Prop:=l.Pairwise fun p q=>kl p.1 q.1
def pos(l:List Pr)(k:ByteArray):Nat:=(l.takeWhile fun p=>decide (kl p.1 k)).length
def dA(l:List Pr)(k:ByteArray):Bool:=l.any fun p=>decide (p.1=k)
theorem ME{l:List Pr}{k:ByteArray}{i:Nat}(b:i≤l.length)(c:∀j (h:j<l.length),j<i→kl l[j].1 k)(d:∀(h:i<l.length),¬kl l[i].1 k):pos l k=i:=by
 unfold pos;induction l generalizing i with
 |nil=>simp at b;simp[b]
 |cons p l ih=>
  rw[List.takeWhile_cons];cases i with
  |zero=>
   have:=d (by simp);simp only[List.getElem_cons_zero]at this;rw[if_neg (by simpa using this)];rfl
  |succ i=>
   have:=c 0 (by simp) (by omega);simp only[List.getElem_cons_zero]at this;rw[if_pos (by simpa using this),aX];congr 1
   refine ih (by simpa using b) (fun j e f=>?_) fun h=>?_
   ·have:=c (j+1) (by simpa using e) (by omega)
    simpa using this
   ·have:=d (by simpa using h)
    simpa using this
theorem PW(l:List Pr)(k:ByteArray):pos l k≤l.length:=by
 unfold pos;exact(List.takeWhile_prefix _).length_le
theorem Kr{W:Nat→Prop}{h:ac}{s:SliceV}{l:List Pr}(Y:Sl nY 2 W h s l)(hr:fk l)(hn:l.length≤1000000000)(k:ByteArray){K:Int×Bool→ac→Prop}
  (D:∀h',Upd No h h'→K ((pos l k:Int),dA l k) h'):HC PG te [.slice s.a s.len s.cap,.string k] [.c (.int .i64),.c .bool] K h:=by
 refine HW s k ?_;unfold Cj;refine gP s k _ ?_;unfold dD bT uu cG nU;have X:=Y.len;have J:∀{p:Pr} {h:ac} {K:Int→ac→Prop},(∀h',Upd No h h'→K (Gh p.1 k) h')→HV PG (.func (.func ru) #[] #[]) [.agg #[.string p.1,.string p.2],.string k] [.c (.int .i64)] K h:=fun D=>HV.mk' (MI D)
 refine LoopP.ghost (fun(g:Nat×Nat) (t:Int×Int) h'=>t.1=(g.1:Int)∧t.2=(g.2:Int)∧g.1≤g.2∧g.2≤l.length∧Upd No h h'∧(∀j (P:j<l.length),j<g.1→kl l[j].1 k)∧(∀j (P:j<l.length),g.2≤j→¬kl l[j].1 k)) (fun g=>g.2-g.1) (0,l.length)
  ⟨rfl,by simp only;omega,by simp,by simp,Upd.refl _ _,fun j P h=>by omega,fun j P h=>by simp only at h;omega⟩ ?_
 rintro I ⟨i,j⟩ ⟨ti,tj⟩ h' ⟨V,U,C,A,L,o,v⟩ hI;simp only at V U C A o v;subst V U;have H:=Y.upd L fun _ h=>h.elim
 have mono:∀a b (E:a<l.length) (Z:b<l.length),a<b→kl l[a].1 l[b].1:=fun a b E Z Q=>cJ.1 hr a b E Z Q
 refine ax (fun w=>?_) fun S=>?_
 ·have w:i<j:=by have:(i:Int)<(j:Int):=w;omega
  have em:IntKind.wrap .i64 (eG (IntKind.wrap .u64 (IntKind.wrap .i64 ((i:Int)+(j:Int)))) (2^(min (1:Int).toNat (IntKind.bits .u64))))=(((i+j)/2:Nat):Int):=by
   have e3:(2^(min (1:Int).toNat (IntKind.bits .u64)):Int)=2:=rfl;rw[e3,dT (x:=(i:Int)+(j:Int)) (by omega),Go.IntWalk.u64_in _ (by omega),Int.fdiv_eq_ediv_of_nonneg _ (by omega),dT (by omega)];omega
  refine⟨by decide,?_⟩;simp only[Bd];rw[em];generalize hm:(i+j)/2=m;have B:m<l.length:=by omega
  obtain⟨a,E,_,F⟩:=H.at (aA B);refine⟨by omega,a,E,l[m].1,F 0 _ rfl,l[m].2,F 1 _ rfl,J fun h2 u=>?_⟩
  refine ax (fun f=>?_) fun N=>?_
  ·have c:kl l[m].1 k:=by
    unfold Gh at f;by_cases c:kl l[m].1 k
    ·exact c
    ·rw[if_neg c]at f;split at f<;>omega
   refine hI (m+1,j) _ _ ⟨by simp only;rw[dT (by omega)];omega,rfl,by simp only;omega,A,L.tr u,fun q y z=>?_,v⟩ (by simp only;omega)
   simp only at z;rcases cF q m with h|h
   ·exact rM (mono q m y B h) c
   ·have:q=m:=by omega
    subst this;exact c
  ·have n:¬kl l[m].1 k:=fun c=>N (by unfold Gh;rw[if_pos c];decide)
   refine hI (i,m) _ _ ⟨rfl,rfl,by simp only;omega,by simp only;omega,L.tr u,o,fun q y z O=>?_⟩ (by simp only;omega)
   simp only at z;rcases cF m q with h|h
   ·exact n (rM (mono m q B y h) O)
   ·have:q=m:=by omega
    subst this;exact n O
 ·have C:i=j:=by have:¬(i:Int)<(j:Int):=S;omega
  subst C;have G:pos l k=i:=ME A o fun hi=>v i hi (av _)
  rw[G]at D;refine ax (fun w=>?_) fun T=>?_
  ·have d:i<l.length:=by have:(i:Int)<(s.len:Int):=w;omega
   obtain⟨a,E,_,F⟩:=H.at (aA d);refine⟨by simp only;omega,a,E,l[i].1,F 0 _ rfl,l[i].2,F 1 _ rfl,J fun h2 u=>?_⟩
   have n:=v i d (av _);have R:(Gh l[i].1 k==(0:Int))=dA l k:=by
    unfold Gh dA;rw[if_neg n,Bool.eq_iff_iff,bQ];constructor
    ·intro h
     split at h
     ·rename_i e;exact⟨l[i],List.getElem_mem d,decide_eq_true e⟩
     ·simp at h
    ·rintro⟨p,G,e⟩
     have e:=of_decide_eq_true e;obtain⟨q,y,rfl⟩:=List.mem_iff_getElem.1 G;have:q=i:=by
      rcases Nat.lt_trichotomy q i with h|h|h
      ·exact absurd (e▸o q y h) (fS _)
      ·exact h
      ·exact absurd (e▸mono i q d y h) n
     subst this;rw[if_pos e];rfl
   rw[R];exact D _ (L.tr u)
  ·have d:i=l.length:=by have:¬(i:Int)<(s.len:Int):=T;omega
   have R:dA l k=false:=by
    unfold dA;rw[List.any_eq_false];intro p G e;have e:=of_decide_eq_true e;obtain⟨q,y,rfl⟩:=List.mem_iff_getElem.1 G;exact absurd (e▸o q y (by omega)) (fS _)
   rw[R]at D;exact D _ L
end Go.Proofs
namespace Go.Proofs
open Go.Lift
theorem OwnS.zero{α:Type}{f:α→List Value}{c:Nat}{t:TypeId}{M:Nat→Prop}{h:ac}{s:SliceV}{xs:List α}(e:OwnS f c t M h s xs):OwnS f c t M h ⟨aS s.a 0 s.cap c,0-0,s.cap-0⟩ []:=by
 have i:∀x,(f x).length=c∧0<c:=e.ne;have j:=e.len;have g:=e.cap;refine⟨rfl,i,by simp only;omega,?_⟩
 rcases e.blk with o|⟨b,d,k,n,hc,m⟩
 ·exact .inl (by simp only;omega)
 ·refine .inr ⟨b,xs.flatMap f++d,by rw[k,sub_zero],n,hc,?_⟩
  rw[ai,jF i,m,←Nat.add_mul];simp only;congr 1;omega
def PC:Pr:=(⟨#[]⟩,⟨#[]⟩)
theorem JN(n:Nat):cS n [.string (⟨#[]⟩:ByteArray),.string (⟨#[]⟩:ByteArray)]=(eE n PC).flatMap nY:=by
 unfold cS;induction n with
 |zero=>rfl
 |succ n ih=>rw[me,me,bv,←ih];rfl
theorem OT{n:Nat}(i:n*32≤140737488355328){h:ac}{K:SliceV→ac→Prop}(c:∀s' h',OwnS nY 2 ar (fun b=>h.size≤b) h' s' []→Upd No h h'→K s' h'):
  HC PG eA [.slice none 0 0,.int .i64 n] [.c .slice] K h:=by
 refine mz ⟨none,0,0⟩ n ?_;unfold gL rF;have e:IntKind.wrap .i64 ((n:Int)-IntKind.wrap .i64 (((0:Nat):Int)-((0:Nat):Int)))=(n:Int):=by rw[dT (x:=((0:Nat):Int)-((0:Nat):Int)) (by omega),dT (by omega)];omega
 refine Join.plain (ax (fun h=>by omega) fun _=>?_)
 simp only[Bd];rw[e];refine ax (fun m=>?_) fun k=>c _ _ (OwnS.nil nX) (Upd.refl _ _)
 refine⟨by omega,⟨by omega,by omega,by omega,by omega⟩,?_⟩
 refine AppP.own (f:=nY) (M:=fun b=>h.size≤b) (xs:= []) (ys:=eE n PC) (OwnS.nil nX) (by simp) (JN _) (by rw[JN];exact xj _) rfl (by omega) (by simpa using i) (av _) fun s' h' j d=>?_
 exact⟨by omega,c _ _ (OwnS.zero j) (d.mono fun b g=>.inr g)⟩
abbrev slF(s:SliceV):List Value:= [.slice s.a s.len s.cap]
def ParS(h:ac):List SliceV→List (List Pr)→Prop
 | [],[]=>True
 |v::vs,l::ls=>Sl nY 2 No h v l∧ParS h vs ls
 |_,_=>False
theorem ParS.upd{h h':ac}(k:Upd No h h'):∀{vs:List SliceV} {ls:List (List Pr)},ParS h vs ls→ParS h' vs ls
 | [],[],_=>trivial
 |_::_,_::_,q=>⟨q.1.upd k fun _ h=>h.elim,ParS.upd k q.2⟩
 | [],_::_,q=>q.elim
 |_::_,[],q=>q.elim
theorem ParS.len{h:ac}:∀{vs:List SliceV} {ls:List (List Pr)},ParS h vs ls→vs.length=ls.length
 | [],[],_=>rfl
 |_::_,_::_,q=>by rw[aX,aX,ParS.len q.2]
 | [],_::_,q=>q.elim
 |_::_,[],q=>q.elim
theorem ParS.at{h:ac}:∀{vs:List SliceV} {ls:List (List Pr)},ParS h vs ls→∀{i:Nat} (h1:i<vs.length) (h2:i<ls.length),Sl nY 2 No h vs[i] ls[i]
 |_::_,_::_,q,0,_,_=>q.1
 |_::_,_::_,q,i+1,h1,h2=>ParS.at q.2 (by simpa using h1) (by simpa using h2)
theorem Fi(ls:List (List Pr)){i:Nat}(b:i<ls.length):(ls.take (i+1)).flatten=(ls.take i).flatten++ls[i]:=by
 rw[List.take_succ_eq_append_getElem b,List.flatten_append,oQ,List.flatten_nil,List.append_nil]
theorem Kq(ls:List (List Pr))(i:Nat):(ls.take i).flatten.length≤ls.flatten.length:=by
 have:ls.flatten=(ls.take i).flatten++(ls.drop i).flatten:=by rw[←List.flatten_append,List.take_append_drop]
 rw[this,ai];omega
theorem Lp{h:ac}{s:SliceV}{vs:List SliceV}{ls:List (List Pr)}(C:Sl slF 1 No h s vs)(v:ParS h vs ls)(N:ls.flatten.length*32≤140737488355328)(S:vs.length≤1000)
  {K:SliceV→ac→Prop}(L:∀s' h',OwnS nY 2 ar (fun b=>h.size≤b) h' s' ls.flatten→Upd No h h'→K s' h'):HC PG dW [.slice s.a s.len s.cap] [.c .slice] K h:=by
 refine lN s ?_;unfold gl aD bT rF;have F:=C.len;have d:=v.len;refine LoopP.ghost (fun(i:Nat) (t:Int×Int) h'=>t.2=(i:Int)∧i≤vs.length∧t.1=((ls.take i).flatten.length:Int)∧h'=h) (fun i=>vs.length-i) 0 ⟨rfl,cu _,by simp,rfl⟩ ?_
 rintro I i ⟨tz,ti⟩ h' ⟨g,T,E,rfl⟩ Q;simp only at g E;subst g E;refine ax (fun c=>?_) fun B=>?_
 ·have c:i<vs.length:=by have:(i:Int)<(s.len:Int):=c;omega
  obtain⟨a,z,_,f⟩:=C.at (aA c);have J:=(v.at c (d▸c)).len;have e:=congrArg jz (Fi ls (d▸c));rw[ai]at e;have D:=Kq ls (i+1);refine Join.plain ⟨by simp only;omega,a,z,_,f 0 _ rfl,?_⟩;simp only;have P:IntKind.wrap .i64 (((ls.take i).flatten.length:Int)+((vs[i]).len:Int))=((ls.take (i+1)).flatten.length:Int):=by rw[dT (by omega)];omega
  rw[P];refine ax (fun h=>by omega) fun _=>?_
  rw[gN c (by omega)];exact Q (i+1) _ _ ⟨rfl,c,rfl,rfl⟩ (by omega)
 ·have G:i=vs.length:=by have:¬(i:Int)<(s.len:Int):=B;omega
  rw[bI (by omega)];refine OT N fun Z R u A=>?_
  refine LoopP.ghost (fun(i:Nat) (t:SliceV×Int) x=>t.2=(i:Int)∧i≤vs.length∧OwnS nY 2 ar (fun b=>h'.size≤b) x t.1 (ls.take i).flatten∧Upd No h' x) (fun i=>vs.length-i) 0 ⟨rfl,cu _,by simpa using u,A⟩ ?_
  rintro W j ⟨sj,X⟩ x ⟨g,V,p,o⟩ q;simp only at g p;subst g;refine ax (fun c=>?_) fun k=>?_
  ·have c:j<vs.length:=by have:(j:Int)<(s.len:Int):=c;omega
   obtain⟨a,z,_,f⟩:=(C.upd o fun _ h=>h.elim).at (aA c)
   have n:=((v.upd o).at c (d▸c));have e:=Fi ls (d▸c);have m:=congrArg jz e;rw[ai]at m;have D:=Kq ls (j+1);refine Join.plain ⟨by simp only;omega,a,z,_,f 0 _ rfl,_,n.srow,?_⟩;refine AppP.own (ys:=ls[j]) p n.len rfl (xj _) rfl (by omega) (by omega) o.size fun Y U y w=>?_
   simp only;rw[gN c (by omega)];exact q (j+1) _ _ ⟨rfl,c,e▸y,o.trans w fun b O=>.inr O⟩ (by omega)
  ·have H:j=vs.length:=by have:¬(j:Int)<(s.len:Int):=k;omega
   rw[bI (by omega)]at p;exact L _ _ p o
def F5(l:List Pr)(p:Pr):List Pr:=l.take (pos l p.1)++p::l.drop (if dA l p.1 then pos l p.1+1 else pos l p.1)
theorem IP{l:List Pr}(g:fk l){k:ByteArray}(c:dA l k=true):∃h:pos l k<l.length,l[pos l k].1=k:=by
 unfold dA at c;obtain⟨p,i,e⟩:=bQ.1 c;have e:=of_decide_eq_true e;obtain⟨q,d,rfl⟩:=List.mem_iff_getElem.1 i;have:pos l k=q:=ME (by omega) (fun j f b=>by rw[←e];exact cJ.1 g j q f d b) fun h=>by rw[←e];exact fS _
 subst this;exact⟨d,e⟩
theorem Mu{h:ac}{s:SliceV}{l:List Pr}(e:Sl nY 2 No h s l){i j m:Nat}(f:i≤j)(b:j≤l.length)(d:j≤m)(c:Nat):Sl nY 2 No h ⟨aS s.a i m 2,j-i,c⟩ ((l.drop i).take (j-i)):=Sl.sub e f b d
theorem IV{h:ac}{s:SliceV}{l:List Pr}(z:Sl nY 2 No h s l)(hc:s.len≤s.cap)(w:fk l)(O:l.length≤1000000000)(p:Pr)
  {K:SliceV→ac→Prop}(J:∀s' h',OwnS nY 2 ar (fun b=>h.size≤b) h' s' (F5 l p)→Upd No h h'→K s' h'):HC PG yE [.slice s.a s.len s.cap,.agg #[.string p.1,.string p.2]] [.c .slice] K h:=by
 refine JG s p ?_;unfold Ec aw rm mU L0;have k:=z.len;have k1:=Upd.hnew No h [.string p.1,.string p.2] ar;have b1:=be h [.string p.1,.string p.2] ar;refine bl ?_;simp only[bN h];generalize hnew h [.string p.1,.string p.2] ar=h1 at k1 b1;refine⟨p.1,by rw[bC,aC b1];rfl,Kr (z.upd k1 fun _ h=>h.elim) w O p.1 fun F f=>?_⟩
 have B:=PW l p.1;have c:=k1.tr f;refine⟨by simp only;omega,?_⟩;let q:=if dA l p.1 then pos l p.1+1 else pos l p.1
 have G:q≤l.length:=by
  show(if dA l p.1 then pos l p.1+1 else pos l p.1)≤l.length
  split
  ·rename_i ht;obtain⟨h,_⟩:=IP w ht;omega
  ·exact B
 refine Join.intro (fun t h'=>h'=F∧t=⟨aS s.a q s.cap 2,s.len-q,s.cap-q⟩) (fun R C=>?_) ?_
 ·refine CondP.intro (fun e=>?_) fun e=>C _ _ ⟨rfl,?_⟩
  ·have e:dA l p.1=true:=e
   obtain⟨I,_⟩:=IP w e;have Q:IntKind.wrap .i64 ((pos l p.1:Int)+1)=((pos l p.1+1:Nat):Int):=by rw[dT (by omega)];omega
   simp only;rw[Q];refine⟨by omega,C _ _ ⟨rfl,?_⟩⟩;have:q=pos l p.1+1:=by show(if dA l p.1 then _ else _)=_;rw[if_pos e]
   rw[this];rfl
  ·have e:dA l p.1=false:=e
   have:q=pos l p.1:=by show(if dA l p.1 then _ else _)=_;rw[if_neg (by rw[e];decide)]
   rw[this];rfl
 ·rintro t h' ⟨rfl,rfl⟩
  have b2:=f.get0 b1;refine⟨by simp only;omega,p.1,by rw[bC,aC b2];rfl,p.2,by rw[bC,aC b2];rfl,?_⟩
  have o:=Upd.hnew No h' [.string p.1,.string p.2] ar;have b3:=be h' [.string p.1,.string p.2] ar;refine bl ?_;simp only[bN h'];generalize hnew h' [.string p.1,.string p.2] ar=h3 at o b3;refine bl ?_;have d:=(z.upd c fun _ h=>h.elim).upd o fun _ h=>h.elim
  have n:=Upd.hnew No h3 [.slice (aS s.a 0 s.cap 2) ((pos l p.1:Int).toNat-0) (s.cap-0),.slice (some ⟨h'.size,0,none⟩) 1 1,.slice (aS s.a q s.cap 2) (s.len-q) (s.cap-q)] j6;have H:=be h3 [.slice (aS s.a 0 s.cap 2) ((pos l p.1:Int).toNat-0) (s.cap-0),.slice (some ⟨h'.size,0,none⟩) 1 1,.slice (aS s.a q s.cap 2) (s.len-q) (s.cap-q)] j6;have D:=Mu d (i:=0) (j:=pos l p.1) (m:=s.cap) (cu _) B (by omega) (s.cap-0)
  have N:Sl nY 2 No h3 ⟨some ⟨h'.size,0,none⟩,1,1⟩ [p]:=⟨rfl,nX,fun _=>⟨_,rfl,fun h=>h.elim,sX b3 fun i v u=>by simpa using u⟩⟩
  have A:=Mu d (i:=q) (j:=l.length) (m:=s.cap) G (av _) (by omega) (s.cap-q);rw[←k]at A;rw[dN]at D;rw[bI (by rw[aO];omega)]at A;have L:F5 l p= [l.take (pos l p.1-0),[p],l.drop q].flatten:=by simp[F5,q]
  refine Lp (s:=⟨some (aV h3),3,3⟩) (vs:= [⟨aS s.a 0 s.cap 2,(pos l p.1:Int).toNat-0,s.cap-0⟩,⟨some ⟨h'.size,0,none⟩,1,1⟩,⟨aS s.a q s.cap 2,s.len-q,s.cap-q⟩]) (ls:= [l.take (pos l p.1-0),[p],l.drop q])
   ⟨rfl,fun x=>⟨rfl,Nat.one_pos⟩,fun _=>⟨_,rfl,fun h=>h.elim,sX H fun i v u=>by simpa[slF]using u⟩⟩ ⟨D.upd n fun _ h=>h.elim,N.upd n fun _ h=>h.elim,A.upd n fun _ h=>h.elim,trivial⟩ ?_ (by simp) fun S T g y=>?_
  ·simp only[oQ,List.flatten_nil,ai,bi,aO,List.length_singleton,List.length_nil];omega
  ·rw[←L]at g
   have E:=((c.tr o).tr n);exact J _ _ (g.more fun b P=>Nat.le_trans E.size P) (E.tr y)
end Go.Proofs
