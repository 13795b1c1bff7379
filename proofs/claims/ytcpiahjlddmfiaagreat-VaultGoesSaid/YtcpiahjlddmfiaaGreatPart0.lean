/- A part of the proof that the named laws of this program answer true, whatever the input. -/
import Derived.Test.YtcpiahjlddmfiaaGreatTreeF0
import Derived.Test.YtcpiahjlddmfiaaGreatTreeF1
import Derived.Test.YtcpiahjlddmfiaaGreatLaw0
import Derived.Test.YtcpiahjlddmfiaaGreatLift3
import Derived.Lib.Overlaps
import Derived.Sort.Walk0
open BitVec renaming ofInt→ag
open ByteArray renaming size_extract→kD
open Int renaming fdiv→eh,toNat_natCast→aM
open List renaming flatMap_cons→aD,take_length→bJ,length_take→aY,length_drop→aH,flatMap_append→bo,drop_zero→cK,append_assoc→aj,take_append_of_le_length→df,take_of_length_le→be,length_append→ae,drop_left→iA,take_left→iy,size_toArray→cx,drop_eq_getElem_cons→je,length_eq_zero_iff→bV,drop_left'→bL,take_left'→cp,drop_drop→cz,drop_append_of_le_length→eL,length_cons→aI,pairwise_iff_getElem→dd,getElem?_eq_getElem→au,any_eq_true→bF,replicate→dU,replicate_succ→jp,flatten_append→ga,flatten_cons→fY,length→fj
open Nat renaming zero_le→bB,zero_add→aw,sub_self→pK,le_refl→ar,lt_or_ge→cj,min_eq_left→aX,sub_zero→dT,min→cE,add_one_mul→d5,one_mul→lW,le_mul_of_pos_left→kB,min_eq_right→li
namespace Go.Proofs
open Go.Lift
theorem B8(n:Int):0≤IntKind.wrap .u64 n∧IntKind.wrap .u64 n<18446744073709551616:=by rw[IntKind.wrap_u64];omega
theorem pL{x:Int}(h: -4611686018427387904≤x∧x≤4611686018427387904):IntKind.wrap .i64 x=x:=Go.IntWalk.i64_in _ (by omega)
theorem dg{i n:Nat}(h:i<n)(a:n≤4611686018427387904):IntKind.wrap .i64 ((i:Int)+1)=((i+1:Nat):Int):=by rw[pL (by omega)];omega
theorem u4{h:ac}{b i:Nat}{c:Array Value}{t:TypeId}{v:Value}{k:ac→Prop}(a:h[b]? =some (.cells c t (0,0)))
  (d:∀h',h'[b]? =some (.cells (c.setIfInBounds i v) t (0,0))→Upd (· =b) h h'→k h'):At (hset h ⟨b,i,none⟩ v) k:=by
 refine d _ ?_ (Upd.hset _ _ rfl);rw[xE a,gH a]
def Gw(a b:Int):Int:=IntKind.wrap .u64 (ag (IntKind.bits .u64) a&&&ag (IntKind.bits .u64) b).toNat
def dX(a b:Int):Int:=IntKind.wrap .u64 (ag (IntKind.bits .u64) a^^^ag (IntKind.bits .u64) b).toNat
def FQ(a b:Int):Int:=IntKind.wrap .u64 (ag (IntKind.bits .u64) a|||ag (IntKind.bits .u64) b).toNat
def Ck(x n:Int):Int:=
 FQ (IntKind.wrap .u64 (x*2^(min (Gw (IntKind.wrap .u64 n) 63).toNat (IntKind.bits .u64)))) (eh x (2^(min (IntKind.wrap .u64 (64-Gw (IntKind.wrap .u64 n) 63)).toNat (IntKind.bits .u64))))
theorem uF{x n:Int}{h:ac}{K:Int→ac→Prop}(a:K (Ck x n) h):HC PG cc [.int .u64 x,.int .i64 n] [.c (.int .u64)] K h:=by
 refine oI x n ?_;unfold jA;exact⟨(B8 _).1,(B8 _).1,a⟩
abbrev Q4:=Int×Int×Int×Int
def q4(s:Q4):Array Value:= #[.int .u64 s.1,.int .u64 s.2.1,.int .u64 s.2.2.1,.int .u64 s.2.2.2]
def HK(a b:Int):Int:=IntKind.wrap .u64 (a+b)
def GJ(s:Q4):Q4:=(HK s.1 s.2.1,s.2)
def G4(s:Q4):Q4:=(s.1,dX (Ck s.2.1 13) s.1,s.2.2)
def HS(s:Q4):Q4:=(Ck s.1 32,s.2)
def Ih(s:Q4):Q4:=(s.1,s.2.1,HK s.2.2.1 s.2.2.2,s.2.2.2)
def IR(s:Q4):Q4:=(s.1,s.2.1,s.2.2.1,dX (Ck s.2.2.2 16) s.2.2.1)
def I7(s:Q4):Q4:=(HK s.1 s.2.2.2,s.2)
def JK(s:Q4):Q4:=(s.1,s.2.1,s.2.2.1,dX (Ck s.2.2.2 21) s.1)
def JW(s:Q4):Q4:=(s.1,s.2.1,HK s.2.2.1 s.2.1,s.2.2.2)
def s09(s:Q4):Q4:=(s.1,dX (Ck s.2.1 17) s.2.2.1,s.2.2)
def s10(s:Q4):Q4:=(s.1,s.2.1,Ck s.2.2.1 32,s.2.2.2)
def Cj(s:Q4):Q4:=s10 (s09 (JW (JK (I7 (IR (Ih (HS (G4 (GJ s)))))))))
def j4:Nat→Q4→Q4
 |0,s=>s
 |n+1,s=>j4 n (Cj s)
theorem kS{h:ac}{b i:Nat}{t:TypeId}{s s':Q4}{v:Value}{k:ac→Prop}(d:h[b]? =some (.cells (q4 s) t (0,0))) (e:(q4 s).setIfInBounds i v=q4 s')
  (f:∀h',h'[b]? =some (.cells (q4 s') t (0,0))→Upd (· =b) h h'→k h'):At (hset h ⟨b,i,none⟩ v) k:=
 u4 d fun h' a c=>f h' (e▸a) c
theorem yT{n:Nat}(X:n≤100){h:ac}{b:Nat}{t:TypeId}{s:Q4}(A:h[b]? =some (.cells (q4 s) t (0,0))) {K:Unit→ac→Prop}
  (N:∀h',h'[b]? =some (.cells (q4 (j4 n s)) t (0,0))→Upd (· =b) h h'→K () h'):HC PG fq [.pointer (some ⟨b,0,none⟩),.int .i64 n] [] K h:=by
 refine sH _ _ ?_;unfold m6 bA fc dL ri;refine LoopP.ghost (fun(g:Nat×Q4) (t':Int) h'=>t'=(g.1:Int)∧g.1≤n∧h'[b]? =some (.cells (q4 g.2) t (0,0))∧Upd (· =b) h h'∧j4 (n-g.1) g.2=j4 n s) (fun g=>n-g.1) (0,s) ⟨rfl,bB _,A,Upd.refl _ _,rfl⟩ ?_
 rintro I ⟨i,d⟩ t' h' ⟨O,hi,a,P,x⟩ S;simp only at O hi a x;subst O;refine aU (fun u=>?_) fun Q=>?_
 ·have u:i<n:=by omega
  have c:∀{h:ac} {s:Q4} {i:Nat},h[b]? =some (.cells (q4 s) t (0,0))→bc h ⟨b,0+i,none⟩=(q4 s)[i]?:=fun A=>by rw[aw];exact aE A
  have w:∀{h:ac} {s:Q4} {i:Nat},h[b]? =some (.cells (q4 s) t (0,0))→i<4→Wr h ⟨b,0+i,none⟩:=fun A hi=>by rw[aw];exact ge A hi
  simp only[show((0:Int)).toNat*1=0 from rfl,show((1:Int)).toNat*1=1 from rfl,show((2:Int)).toNat*1=2 from rfl,show((3:Int)).toNat*1=3 from rfl]
  refine⟨_,rfl,by decide,_,c (i:=0) a,_,rfl,by decide,_,c (i:=1) a,_,rfl,by decide,w (i:=0) a (by decide),kS (s':=GJ d) a rfl fun h2 e G=>?_⟩
  refine⟨_,rfl,by decide,_,c (i:=1) e,_,rfl,by decide,_,c (i:=0) e,_,rfl,uF ⟨c (i:=0) e,by decide,w (i:=1) e (by decide),kS (s':=G4 (GJ d)) e rfl fun Y v D=>?_⟩⟩
  refine⟨_,rfl,by decide,_,c (i:=0) v,_,rfl,uF ⟨by decide,w (i:=0) v (by decide),kS (s':=HS (G4 (GJ d))) v rfl fun W p J=>?_⟩⟩
  refine⟨_,rfl,by decide,_,c (i:=2) p,_,rfl,by decide,_,c (i:=3) p,_,rfl,by decide,w (i:=2) p (by decide),kS (s':=Ih (HS (G4 (GJ d)))) p rfl fun V m L=>?_⟩
  refine⟨_,rfl,by decide,_,c (i:=3) m,_,rfl,by decide,_,c (i:=2) m,_,rfl,uF ⟨c (i:=2) m,by decide,w (i:=3) m (by decide),kS (s':=IR (Ih (HS (G4 (GJ d))))) m rfl fun h6 q H=>?_⟩⟩
  refine⟨_,rfl,by decide,_,c (i:=0) q,_,rfl,by decide,_,c (i:=3) q,_,rfl,by decide,w (i:=0) q (by decide),kS (s':=I7 (IR (Ih (HS (G4 (GJ d)))))) q rfl fun U f C=>?_⟩
  refine⟨_,rfl,by decide,_,c (i:=3) f,_,rfl,by decide,_,c (i:=0) f,_,rfl,uF ⟨c (i:=0) f,by decide,w (i:=3) f (by decide),kS (s':=JK (I7 (IR (Ih (HS (G4 (GJ d))))))) f rfl fun Z o E=>?_⟩⟩
  refine⟨_,rfl,by decide,_,c (i:=2) o,_,rfl,by decide,_,c (i:=1) o,_,rfl,by decide,w (i:=2) o (by decide),kS (s':=JW (JK (I7 (IR (Ih (HS (G4 (GJ d)))))))) o rfl fun h9 j F=>?_⟩
  refine⟨_,rfl,by decide,_,c (i:=1) j,_,rfl,by decide,_,c (i:=2) j,_,rfl,uF ⟨c (i:=2) j,by decide,w (i:=1) j (by decide),kS (s':=s09 (JW (JK (I7 (IR (Ih (HS (G4 (GJ d))))))))) j rfl fun R k y=>?_⟩⟩
  refine⟨_,rfl,by decide,_,c (i:=2) k,_,rfl,uF ⟨by decide,w (i:=2) k (by decide),kS (s':=Cj d) k rfl fun T B z=>?_⟩⟩
  rw[dg u (by omega)];refine S (i+1,Cj d) _ _ ⟨rfl,u,B,P.tr (G.tr (D.tr (J.tr (L.tr (H.tr (C.tr (E.tr (F.tr (y.tr z))))))))),?_⟩ (by simp only;omega);simp only;rw[←x,show n-i=(n-(i+1))+1 by omega];rfl
 ·obtain rfl:i=n:=by omega
  rw[pK]at x;have x:d=j4 i s:=x;rw[←x]at N;exact N _ a P
end Go.Proofs
namespace Go.Proofs
open Go.Lift
def HB(s:ByteArray)(i:Nat):Int:=match s[i]? with|some b=>(b.toNat:Int)|none=>0
def JJ(b:Int)(n:Int):Int:=IntKind.wrap .u64 ((IntKind.wrap .u64 b)*2^(min n.toNat (IntKind.bits .u64)))
def wj(s:ByteArray):Nat→Int→Int
 |0,t=>t
 |k+1,t=>wj s k (FQ t (if k=0 then IntKind.wrap .u64 (HB s 0)else JJ (HB s k) ((8*k:Nat):Int)))
def vr(s:ByteArray):Int:=wj s s.size 0
theorem nQ{s:ByteArray}{i:Nat}(h:i<s.size):∃b,s[i]? =some b∧HB s i=(b.toNat:Int):=⟨s[i],getElem?_pos s i h,by simp[HB,getElem?_pos s i h]⟩
theorem Dq{s:ByteArray}(H:s.size≤8){h:ac}{K:Int→ac→Prop}(g:K (vr s) h):HC PG py [.string s] [.c (.int .u64)] K h:=by
 refine Db s ?_;unfold ye;refine Join.intro (fun t h'=>h'=h∧1≤s.size∧wj s 1 t=wj s s.size 0) (fun G p=>?_) ?_
 ·refine Join.intro (fun t h'=>h'=h∧2≤s.size∧wj s 2 t=wj s s.size 0) (fun J n=>?_) ?_
  ·refine Join.intro (fun t h'=>h'=h∧3≤s.size∧wj s 3 t=wj s s.size 0) (fun N q=>?_) ?_
   ·refine Join.intro (fun t h'=>h'=h∧4≤s.size∧wj s 4 t=wj s s.size 0) (fun F m=>?_) ?_
    ·refine Join.intro (fun t h'=>h'=h∧5≤s.size∧wj s 5 t=wj s s.size 0) (fun Q j=>?_) ?_
     ·refine Join.intro (fun t h'=>h'=h∧6≤s.size∧wj s 6 t=wj s s.size 0) (fun S o=>?_) ?_
      ·refine Join.intro (fun t h'=>h'=h∧7≤s.size∧wj s 7 t=wj s s.size 0) (fun E k=>?_) ?_
       ·refine CondP.intro (fun e=>?_) fun z=>?_
        ·have e:s.size=8:=by have:=of_decide_eq_true (by simpa using e:decide ((s.size:Int)=8)=true);omega
         obtain⟨b,c,a⟩:=nQ (s:=s) (i:=7) (by omega);refine⟨b,by decide,c,by decide,k _ _ ⟨rfl,by omega,?_⟩⟩
         rw[e,←a];rfl
        refine CondP.intro (fun e=>?_) fun B=>?_
        ·have e:s.size=7:=by have:=of_decide_eq_true (by simpa using e:decide ((s.size:Int)=7)=true);omega
         exact k _ _ ⟨rfl,by omega,by rw[e]⟩
        refine CondP.intro (fun e=>?_) fun w=>?_
        ·have e:s.size=6:=by have:=of_decide_eq_true (by simpa using e:decide ((s.size:Int)=6)=true);omega
         exact o _ _ ⟨rfl,by omega,by rw[e]⟩
        refine CondP.intro (fun e=>?_) fun v=>?_
        ·have e:s.size=5:=by have:=of_decide_eq_true (by simpa using e:decide ((s.size:Int)=5)=true);omega
         exact j _ _ ⟨rfl,by omega,by rw[e]⟩
        refine CondP.intro (fun e=>?_) fun A=>?_
        ·have e:s.size=4:=by have:=of_decide_eq_true (by simpa using e:decide ((s.size:Int)=4)=true);omega
         exact m _ _ ⟨rfl,by omega,by rw[e]⟩
        refine CondP.intro (fun e=>?_) fun y=>?_
        ·have e:s.size=3:=by have:=of_decide_eq_true (by simpa using e:decide ((s.size:Int)=3)=true);omega
         exact q _ _ ⟨rfl,by omega,by rw[e]⟩
        refine CondP.intro (fun e=>?_) fun u=>?_
        ·have e:s.size=2:=by have:=of_decide_eq_true (by simpa using e:decide ((s.size:Int)=2)=true);omega
         exact n _ _ ⟨rfl,by omega,by rw[e]⟩
        refine CondP.intro (fun e=>?_) fun x=>?_
        ·have e:s.size=1:=by have:=of_decide_eq_true (by simpa using e:decide ((s.size:Int)=1)=true);omega
         exact p _ _ ⟨rfl,by omega,by rw[e]⟩
        have e:s.size=0:=by
         have O:¬(s.size:Int)=1:=by simpa using x
         have D:¬(s.size:Int)=2:=by simpa using u
         have C:¬(s.size:Int)=3:=by simpa using y
         have q4:¬(s.size:Int)=4:=by simpa using A
         have L:¬(s.size:Int)=5:=by simpa using v
         have I:¬(s.size:Int)=6:=by simpa using w
         have P:¬(s.size:Int)=7:=by simpa using B
         have R:¬(s.size:Int)=8:=by simpa using z
         omega
        unfold vr at g;rw[e]at g;exact g
       ·rintro t _ ⟨rfl,d,f⟩
        obtain⟨b,c,a⟩:=nQ (s:=s) (i:=6) (by omega);refine⟨b,by decide,c,by decide,o _ _ ⟨rfl,by omega,?_⟩⟩
        rw[←f,←a];rfl
      ·rintro t _ ⟨rfl,d,f⟩
       obtain⟨b,c,a⟩:=nQ (s:=s) (i:=5) (by omega);refine⟨b,by decide,c,by decide,j _ _ ⟨rfl,by omega,?_⟩⟩
       rw[←f,←a];rfl
     ·rintro t _ ⟨rfl,d,f⟩
      obtain⟨b,c,a⟩:=nQ (s:=s) (i:=4) (by omega);refine⟨b,by decide,c,by decide,m _ _ ⟨rfl,by omega,?_⟩⟩
      rw[←f,←a];rfl
    ·rintro t _ ⟨rfl,d,f⟩
     obtain⟨b,c,a⟩:=nQ (s:=s) (i:=3) (by omega);refine⟨b,by decide,c,by decide,q _ _ ⟨rfl,by omega,?_⟩⟩
     rw[←f,←a];rfl
   ·rintro t _ ⟨rfl,d,f⟩
    obtain⟨b,c,a⟩:=nQ (s:=s) (i:=2) (by omega);refine⟨b,by decide,c,by decide,n _ _ ⟨rfl,by omega,?_⟩⟩
    rw[←f,←a];rfl
  ·rintro t _ ⟨rfl,d,f⟩
   obtain⟨b,c,a⟩:=nQ (s:=s) (i:=1) (by omega);refine⟨b,by decide,c,by decide,p _ _ ⟨rfl,by omega,?_⟩⟩
   rw[←f,←a];rfl
 ·rintro t _ ⟨rfl,d,f⟩
  obtain⟨b,c,a⟩:=nQ (s:=s) (i:=0) (by omega);refine⟨b,by decide,c,?_⟩
  unfold vr at g;rw[←f]at g;rw[←a];exact g
end Go.Proofs
namespace Go.Proofs
open Go.Lift
def w9(m:Int)(s:Q4):Q4:=
 let r:=j4 2 (s.1,s.2.1,s.2.2.1,dX s.2.2.2 m)
 (dX r.1 m,r.2)
theorem Dx{m:Int}{h:ac}{b:Nat}{t:TypeId}{s:Q4}(d:h[b]? =some (.cells (q4 s) t (0,0))) {K:Unit→ac→Prop}
  (g:∀h',h'[b]? =some (.cells (q4 (w9 m s)) t (0,0))→Upd (· =b) h h'→K () h'):HC PG iQ [.pointer (some ⟨b,0,none⟩),.int .u64 m] [] K h:=by
 refine vf _ _ ?_;unfold o9 bA fc dL pk;have c:∀{h:ac} {s:Q4} {i:Nat},h[b]? =some (.cells (q4 s) t (0,0))→bc h ⟨b,0+i,none⟩=(q4 s)[i]?:=fun d=>by rw[aw];exact aE d
 have w:∀{h:ac} {s:Q4} {i:Nat},h[b]? =some (.cells (q4 s) t (0,0))→i<4→Wr h ⟨b,0+i,none⟩:=fun d hi=>by rw[aw];exact ge d hi
 simp only[show((0:Int)).toNat*1=0 from rfl,show((3:Int)).toNat*1=3 from rfl]
 refine⟨_,rfl,by decide,_,c (i:=3) d,_,rfl,by decide,w (i:=3) d (by decide),kS (s':=(s.1,s.2.1,s.2.2.1,dX s.2.2.2 m)) d rfl fun u e k=>?_⟩
 refine yT (n:=2) (by omega) e fun q a f=>?_
 have p:w9 m s=(dX (j4 2 (s.1,s.2.1,s.2.2.1,dX s.2.2.2 m)).1 m,(j4 2 (s.1,s.2.1,s.2.2.1,dX s.2.2.2 m)).2):=by unfold w9;rfl
 rw[p]at g;generalize j4 2 (s.1,s.2.1,s.2.2.1,dX s.2.2.2 m)=r at a g;refine⟨_,rfl,by decide,_,c (i:=0) a,_,rfl,by decide,w (i:=0) a (by decide),kS (s':=(dX r.1 m,r.2)) a rfl fun v j o=>?_⟩
 exact g _ j (k.tr (f.tr o))
def xf:Nat→ByteArray→Q4→ByteArray×Q4
 |0,s,q=>(s,q)
 |n+1,s,q=>if 8≤s.size then xf n (s.extract 8 s.size) (w9 (vr (s.extract 0 8)) q)else(s,q)
def JC(r:Q4):Int:=dX (dX (dX r.1 r.2.1) r.2.2.1) r.2.2.2
def JB(q:Q4):Int:=JC (j4 4 (q.1,q.2.1,dX q.2.2.1 255,q.2.2.2))
def JV(n:Nat)(g:ByteArray×Q4):Int:=JB (w9 (FQ (vr g.1) (JJ (n:Int) 56)) g.2)
def G0(k0 k1:Int)(s:ByteArray):Int:=
 JV s.size (xf s.size s (dX k0 8317987319222330741,dX k1 7237128888997146477,dX k0 7816392313619706465,dX k1 8387220255154660723))
theorem Hw{a:ac}{b:Nat}{t:TypeId}{r:Q4}(g:a[b]? =some (.cells (q4 r) t (0,0))) {K:Int→Prop} (f:K (JC r)):
  (((0:Int)≤(0:Int)∧(0:Int)<((4:Nat):Int))∧
   ∃v30:Int,bc a (adr ⟨b,0,none⟩ ((0:Int).toNat*1))=some (.int .u64 v30)∧
   (((0:Int)≤(1:Int)∧(1:Int)<((4:Nat):Int))∧
    ∃v31:Int,bc a (adr ⟨b,0,none⟩ ((1:Int).toNat*1))=some (.int .u64 v31)∧
    Bd (IntKind.wrap .u64 (ag (IntKind.bits .u64) v30^^^ag (IntKind.bits .u64) v31).toNat:Int) (fun n32=>
     (((0:Int)≤(2:Int)∧(2:Int)<((4:Nat):Int))∧
      ∃v33:Int,bc a (adr ⟨b,0,none⟩ ((2:Int).toNat*1))=some (.int .u64 v33)∧
      Bd (IntKind.wrap .u64 (ag (IntKind.bits .u64) n32^^^ag (IntKind.bits .u64) v33).toNat:Int) (fun d=>
       (((0:Int)≤(3:Int)∧(3:Int)<((4:Nat):Int))∧
        ∃v35:Int,bc a (adr ⟨b,0,none⟩ ((3:Int).toNat*1))=some (.int .u64 v35)∧
        Bd (IntKind.wrap .u64 (ag (IntKind.bits .u64) d^^^ag (IntKind.bits .u64) v35).toNat:Int) (fun e=>
         K e))))))):=by
 have c:∀{i:Nat},bc a ⟨b,0+i,none⟩=(q4 r)[i]?:=by intro i;rw[aw];exact aE g
 exact⟨by decide,_,c (i:=0),by decide,_,c (i:=1),by decide,_,c (i:=2),by decide,_,c (i:=3),f⟩
theorem Hv{a:ac}{b:Nat}{t:TypeId}{q:Q4}(k:a[b]? =some (.cells (q4 q) t (0,0))) {K:Unit→ac→Prop}
  (o:∀h',h'[b]? =some (.cells (q4 (j4 4 (q.1,q.2.1,dX q.2.2.1 255,q.2.2.2))) t (0,0))→Upd (· =b) a h'→K () h'):
  (((0:Int)≤(2:Int)∧(2:Int)<((4:Nat):Int))∧
   ∃v25:Int,bc a (adr ⟨b,0,none⟩ ((2:Int).toNat*1))=some (.int .u64 v25)∧
   Bd (IntKind.wrap .u64 (ag (IntKind.bits .u64) v25^^^ag (IntKind.bits .u64) 255).toNat:Int) (fun j=>
    (((0:Int)≤(2:Int)∧(2:Int)<((4:Nat):Int))∧
     (Wr a (adr ⟨b,0,none⟩ ((2:Int).toNat*1))∧
      At (hset a (adr ⟨b,0,none⟩ ((2:Int).toNat*1)) (.int .u64 j)) (fun d=>
       HC PG fq [.pointer (some ⟨b,0,none⟩),.int .i64 4] [] K d))))):=by
 have c:∀{i:Nat},bc a ⟨b,0+i,none⟩=(q4 q)[i]?:=by intro i;rw[aw];exact aE k
 refine⟨by decide,_,c (i:=2),by decide,by rw[show((2:Int)).toNat*1=2 from rfl,bp];exact ge k (by simp[q4]),?_⟩
 refine kS (s':=(q.1,q.2.1,dX q.2.2.1 255,q.2.2.2)) k rfl fun s f e=>?_
 exact yT (n:=4) (by omega) f fun p g m=>o p g (e.tr m)
theorem aR{h:ac}{k:ac→Prop}(a:k h):At h k:=a
theorem Ic{k0 k1:Int}{s:ByteArray}{h:ac}{K:Int→ac→Prop}(z:∀h',Upd No h h'→K (G0 k0 k1 s) h'):HC PG uQ [.agg #[.int .u64 k0,.int .u64 k1],.string s] [.c (.int .u64)] K h:=by
 refine ET (k0,k1) s ?_;unfold zt bA fc ad nv dL pk I8 IU IY GP;have t:=Upd.hnew No h [.int .u64 k0,.int .u64 k1] g8;have b1:=bh h [.int .u64 k0,.int .u64 k1] g8;have C:=eO h [.int .u64 k0,.int .u64 k1] g8;refine aR ?_;simp only[bS h];generalize hnew h [.int .u64 k0,.int .u64 k1] g8=h1 at t b1 C;refine⟨k0,by rw[bp,aE b1];rfl,k1,by rw[bp,aE b1];rfl,k0,by rw[bp,aE b1];rfl,k1,by rw[bp,aE b1];rfl,?_⟩
 have F:=Upd.hnew No h1 [.int .u64 0,.int .u64 0,.int .u64 0,.int .u64 0] fR;have b2:=bh h1 [.int .u64 0,.int .u64 0,.int .u64 0,.int .u64 0] fR;simp only[bS h1];simp only[Bd];refine aR ?_;refine⟨.inr ⟨_,rfl,fun j D=>by rw[bp];exact ge b2 (by simp at D⊢;omega)⟩,?_⟩
 refine aR ?_;rw[fK _ _ 0 0 _ b2 (by simp)];have b3:=gH (o:=.cells (q4 (dX k0 8317987319222330741,dX k1 7237128888997146477,dX k0 7816392313619706465,dX k1 8387220255154660723)) fR (0,0)) b2;have L:Upd No h _:=t.tr (F.trans (M':=(· =h1.size)) (Upd.set (hnew h1 [.int .u64 0,.int .u64 0,.int .u64 0,.int .u64 0] fR) (.cells (q4 (dX k0 8317987319222330741,dX k1 7237128888997146477,dX k0 7816392313619706465,dX k1 8387220255154660723)) fR (0,0)) rfl) fun b a=>.inr (Nat.le_of_eq a.symm))
 refine LoopP.ghost (fun(g:Nat×Q4) (t':ByteArray) h'=>t'.size≤g.1∧h'[h1.size]? =some (.cells (q4 g.2) fR (0,0))∧Upd No h h'∧xf g.1 t' g.2=xf s.size s (dX k0 8317987319222330741,dX k1 7237128888997146477,dX k0 7816392313619706465,dX k1 8387220255154660723)) (fun g=>g.1) (s.size,_)
  ⟨ar _,b3,L,rfl⟩ ?_
 rintro I ⟨n,q⟩ t' h' ⟨H,a,B,p⟩ E;simp only at H a p;have e:∀b,b=h1.size→No b∨h.size≤b:=fun b a=>.inr (by omega)
 refine aU (fun k=>?_) fun u=>?_
 ·have k:8≤t'.size:=by omega
  cases n with
  |zero=>omega
  |succ n=>
   refine⟨by omega,Dq (by rw[kD];show min 8 _-0≤8;omega) (Dx a fun J d f=>⟨by omega,?_⟩)⟩
   have G:((8:Int)).toNat=8:=rfl;rw[G]at d⊢;refine E (n,w9 (vr (t'.extract 0 8)) q) _ _ ⟨by simp only[kD];omega,d,B.trans f e,?_⟩ (by simp only;omega);rw[←p];simp only[xf,if_pos k]
 ·have u:t'.size<8:=by omega
  have p:(t',q)=xf s.size s (dX k0 8317987319222330741,dX k1 7237128888997146477,dX k0 7816392313619706465,dX k1 8387220255154660723):=by
   rw[←p];cases n with
   |zero=>rfl
   |succ n=>simp only[xf,if_neg (show ¬8≤t'.size by omega)]
  have c:∀{h:ac} {s:Q4} {i:Nat},h[h1.size]? =some (.cells (q4 s) fR (0,0))→bc h ⟨h1.size,0+i,none⟩=(q4 s)[i]?:=fun a=>by rw[aw];exact aE a
  have w:∀{h:ac} {s:Q4} {i:Nat},h[h1.size]? =some (.cells (q4 s) fR (0,0))→i<4→Wr h ⟨h1.size,0+i,none⟩:=fun a hi=>by rw[aw];exact ge a hi
  have y:G0 k0 k1 s=JB (w9 (FQ (vr t') (JJ (s.size:Int) 56)) q):=by unfold G0;rw[←p];rfl
  rw[y]at z;refine Dq (by omega) ⟨by decide,Dx (m:=FQ (vr t') (JJ (s.size:Int) 56)) a fun J d f=>?_⟩
  refine Hv d fun A v x=>Hw (K:=fun n=>K n A) v ?_
  exact z A ((B.trans f e).trans x e)
structure Hs where
 k0:Int
 k1:Int
 mask:Int
def gj(h:Hs)(s:ByteArray):Int:=Gw (G0 h.k0 h.k1 s) h.mask
theorem Ag{x:Hs}{s:ByteArray}{h:ac}{K:Int→ac→Prop}(d:∀h',Upd No h h'→K (gj x s) h'):HC PG fT [.agg #[.int .u64 x.k0,.int .u64 x.k1,.int .u64 x.mask],.string s] [.c (.int .u64)] K h:=by
 refine tQ (x.k0,x.k1,x.mask) s ?_;unfold nX ad y2 eM I0;have a:=Upd.hnew No h [.int .u64 x.k0,.int .u64 x.k1,.int .u64 x.mask] bQ;have b1:=bh h [.int .u64 x.k0,.int .u64 x.k1,.int .u64 x.mask] bQ;simp only[At,bS h];generalize hnew h [.int .u64 x.k0,.int .u64 x.k1,.int .u64 x.mask] bQ=h1 at a b1;refine⟨x.k0,by rw[bp,bp,aE b1];rfl,x.k1,by rw[bp,bp,aE b1];rfl,x.mask,by rw[bp,aE b1];rfl,?_⟩
 refine Ic fun e c=>⟨by rw[bp,aE (c.get0 b1)];rfl,d _ (a.tr c)⟩
theorem Bz(x:Hs)(s:ByteArray):0≤gj x s∧gj x s<18446744073709551616:=B8 _
end Go.Proofs
namespace Go.Proofs
open Go Go.Lift
abbrev jq(x:ByteArray×ByteArray):List Value:= [.string x.1,.string x.2]
theorem ip(x:ByteArray×ByteArray):(jq x).length=2∧0<2:=⟨rfl,by omega⟩
theorem qW:∀xs:List (ByteArray×ByteArray),bq (xs.flatMap jq)=true
 | []=>rfl
 |x::xs=>by rw[aD];exact iM rfl (qW xs)
theorem zV{h:ac}{a b o c f d e:Nat}{j cw:Array Value}{k tb:TypeId}(g:h[a]? =some (.cells j k (0,0))) (p:h[b]? =some (.cells cw tb (0,0))) (q:a≠b) (m:cw.size≠0) {K:Bool→ac→Prop} (n:K false h):
  HC PG fe [.slice (some ⟨a,0,none⟩) c f,.slice (some ⟨b,o,none⟩) d e] [.c .bool] K h:=by
 refine⟨fun w i=>.inr ⟨.bool false,w,?_,Tame.refl w,false,rfl,i▸n⟩⟩
 subst i;rw[mD];have:=Lib.run_overlaps_apart (P:=PG) w dQ qg ah (by kernel_rfl) (bi PG ah) (lH (by kernel_rfl)) ⟨a,0,none⟩ ⟨b,o,none⟩ c f d e q k tb j.size cw.size
  (by simp[World.shape?,g]) (by simp[World.shape?,p]) m (by simp[World.frozen?,g]) (by simp[World.frozen?,g])
 rw[show([Value.slice (some ⟨a,0,none⟩) c f,Value.slice (some ⟨b,o,none⟩) d e]:List Value).toArray= #[.slice (some ⟨a,0,none⟩) c f,.slice (some ⟨b,o,none⟩) d e]from rfl,this]
 rfl
set_option maxRecDepth 4000 in
theorem CN{M:Nat→Prop}{h:ac}{s:SliceV}{xs:List (ByteArray×ByteArray)}(T:OwnS jq 2 ah M h s xs){k:Nat}(hkl:k≤xs.length)(hn:(xs.length+1)*32≤140737488355328){x:ByteArray×ByteArray}{m:Nat}(D:h[m]? =some (.cells (jq x).toArray ah (0,0)))
  (Z:¬M m) (hM:∀b,h.size≤b→M b) {K:SliceV→ac→Prop} (hK:∀s' h',OwnS jq 2 ah M h' s' (xs.take k++x::xs.drop k)→Upd M h h'→K s' h'):
  HC PG bT [.slice s.a s.len s.cap,.int .i64 k,.slice (some ⟨m,0,none⟩) 1 1] [.c .slice] K h:=by
 refine iX s k ⟨some ⟨m,0,none⟩,1,1⟩ ?_;unfold eP uw;have p:=T.len;have hcap:=T.cap;have F:SRow h (some ⟨m,0,none⟩) (1*2) (jq x):=⟨rfl,.inr ⟨_,rfl,nu D fun i v hi=>by simpa using hi⟩⟩
 refine⟨by omega,ak.2 ?_⟩;refine CondP.intro (fun e=>?_) fun e=>?_
 ·have e:k=xs.length:=by have:=of_decide_eq_true (by simpa using e:decide ((k:Int)=(s.len:Int))=true);omega
  subst e;refine⟨_,F,AppP.own (ys:= [x]) T rfl (by simp) rfl rfl (by omega) (by simp;omega) (hM _ (ar _)) fun s' h' ho hu=>hK s' h' ?_ hu⟩
  rw[bJ,List.drop_length];exact ho
 have hlt:k<xs.length:=by
  rcases cj k xs.length with h|h
  ·exact h
  ·have:((k:Int)==(s.len:Int))=true:=by rw[beq_iff_eq];omega
   rw[this]at e;cases e
 rcases T.blk with h0|⟨b,j,ha,t,hc,hr⟩
 ·omega
 have g:((xs.take k).flatMap jq).length=k*2:=by rw[ia ip,aY,aX hkl]
 have u:((xs.drop k).flatMap jq).length=(xs.length-k)*2:=by rw[ia ip,aH]
 have J:m≠b:=fun e=>Z (e▸t)
 rw[sy (f:=jq) xs k]at hc;have a:(xs.take k++x::xs.drop k).flatMap jq=(xs.take k).flatMap jq++(jq x++(xs.drop k).flatMap jq):=by rw[bo,aD]
 have d:=qW (xs.drop k);have c:(jq x).length=2:=rfl;have C:bq (jq x)=true:=rfl;generalize hAe:(xs.take k).flatMap jq=A at g hc a;generalize hBe:(xs.drop k).flatMap jq=B at u hc a d;generalize jq x=X at F c D a C;rw[ha];have w1:IntKind.wrap .i64 ((xs.length:Int)+((1:Nat):Int))=((xs.length+1:Nat):Int):=by rw[pL (by omega)];omega
 have w2:IntKind.wrap .i64 ((k:Int)+((1:Nat):Int))=((k+1:Nat):Int):=by rw[pL (by omega)];omega
 have w3:IntKind.wrap .i64 (((xs.length+1:Nat):Int)-(k:Int))=((xs.length+1-k:Nat):Int):=by rw[pL (by omega)];omega
 simp only[w1,w2,w3,aM,p];refine aU (fun hgt=>?_) fun hle=>?_
 ·
  have G:s.cap=xs.length:=by omega
  refine Join.plain ⟨by omega,⟨by omega,by omega,by omega,by omega⟩,fun hin=>?_,fun I=>?_⟩
  ·omega
  ·refine⟨A,_,?_,rfl,by omega,Go.growslice_fits I (by omega),fun E y=>?_⟩
   ·rw[sub_zero]
    exact il hc (by rw[g];omega) (by simp only[cK,dT];rw[aj,←g,df (ar _),bJ])
   ·simp only[aM]at y⊢
    have U:=Upd.hnew No h (A++cq (xs.length+1-k) [.string (⟨#[]⟩:ByteArray),.string (⟨#[]⟩:ByteArray)]++cq (E-(k-0+(xs.length+1-k))) [.string (⟨#[]⟩:ByteArray),.string (⟨#[]⟩:ByteArray)]) ah;have bn:=bh h (A++cq (xs.length+1-k) [.string (⟨#[]⟩:ByteArray),.string (⟨#[]⟩:ByteArray)]++cq (E-(k-0+(xs.length+1-k))) [.string (⟨#[]⟩:ByteArray),.string (⟨#[]⟩:ByteArray)]) ah
    have w:(cq (xs.length+1-k) [.string (⟨#[]⟩:ByteArray),.string (⟨#[]⟩:ByteArray)]).length=(xs.length+1-k)*2:=gQ _ _;have hz2:(cq (E-(k-0+(xs.length+1-k))) [.string (⟨#[]⟩:ByteArray),.string (⟨#[]⟩:ByteArray)]).length=(E-(k-0+(xs.length+1-k)))*2:=gQ _ _;have o:k-0+(xs.length+1-k)=xs.length+1:=by omega
    rw[bS];have hsz:h.size≠m:=fun e=>by have:=bG D;omega
    have P:h.size≠b:=fun e=>by have:=bG hc;omega
    have L:=U.get0 hc;have H:=U.get0 D;generalize hnew h _ ah=h9 at U bn L H;rw[o]at y hz2⊢;have m1:cE 1 (xs.length+1-k)=1:=aX (by omega);have m2:cE (xs.length-k) (xs.length+1-(k+1))=xs.length-k:=aX (by omega);rw[m1];have Y:SRow h9 (some ⟨m,0,none⟩) (1*2) X:=il H (by rw[c]) (by rw[cK,be];rw[c];omega)
    refine⟨by omega,?_⟩;rw[gg (by omega)];refine gS Y C bn (by simp only[ae,g,w];omega) fun h11 Q n=>⟨by omega,?_⟩
    simp only[Bd];rw[gg (by omega),gg (by omega),m2];refine⟨by omega,?_⟩;have z:=n.get L (fun e=>P e.symm)
    have V:SRow h11 (some ⟨b,0+k*2,none⟩) ((xs.length-k)*2) B:=il z u (by
     rw[aw,aj,←g,iA,←u,iy])
    refine gS V d Q ?_ fun h16 N S=>?_
    ·simp only[ae,aY,aH,g,w,c];omega
    ·refine hK _ _ ⟨by simp;omega,ip,y,.inr ⟨h.size,cq (E-(xs.length+1)) [.string (⟨#[]⟩:ByteArray),.string (⟨#[]⟩:ByteArray)],rfl,hM _ (ar _),?_,by rw[gQ];rfl⟩⟩ ((U.wide.trans (M':=(· =h.size)) n fun b t=>.inl (t▸hM _ (ar _))).trans (M':=(· =h.size)) S fun b t=>.inl (t▸hM _ (ar _)))
     rw[N,a];have:=Ab (A:=A) (X:=X) (B:=B) (Z1:=cq (xs.length+1-k) [.string (⟨#[]⟩:ByteArray),.string (⟨#[]⟩:ByteArray)]) (Z2:=cq (E-(xs.length+1)) [.string (⟨#[]⟩:ByteArray),.string (⟨#[]⟩:ByteArray)]) (r:=(xs.length-k)*2) g c (by rw[w,←d5];congr 1;omega);rw[o,←this];simp only[aw,d5,lW]
 ·have G:xs.length+1≤s.cap:=by omega
  refine⟨by omega,?_⟩;simp only[Bd,dT];rw[sub_zero,gg (show s.cap≠k+1 by omega),gg (show s.cap≠k by omega)]
  refine⟨by omega,?_⟩;have hrl:2≤j.length:=by rw[hr];exact kB _ (by omega)
  refine zV D hc J (by rw[cx,ae];omega) ?_;refine aA.2 ⟨by omega,by omega,?_⟩
  have m1:cE 1 (xs.length+1-k)=1:=aX (by omega);have m2:cE (xs.length+1-k) (xs.length+1-(k+1))=xs.length-k:=by
   rw[show xs.length+1-(k+1)=xs.length-k by omega];exact li (by omega)
  rw[m2];have V:SRow h (some ⟨b,0+k*2,none⟩) ((xs.length-k)*2) B:=il hc u (by
   rw[aw,aj,←g,iA,←u,iy])
  refine gS V d hc (by simp only[ae,g,u];omega) fun h1 hb1 O=>⟨by omega,?_⟩
  rw[m1];have xr1:SRow h1 (some ⟨m,0,none⟩) (1*2) X:=il (O.get D J) (by rw[c]) (by rw[cK,be];rw[c];omega);refine gS xr1 C hb1 (by simp only[ae,aY,aH,g,u];omega) fun h2 W hu2=>?_
  refine hK _ _ ⟨by simp;omega,ip,G,.inr ⟨b,j.drop 2,rfl,t,?_,?_⟩⟩ ((O.mono fun _ e=>.inl (e▸t)).tr (hu2.mono fun _ e=>.inl (e▸t)))
  ·rw[W,a]
   have:=CP (A:=A) (X:=X) (B:=B) (R:=j) (q:=2) (r:=(xs.length-k)*2) g u hrl;rw[←this];simp only[aw,d5,lW]
  ·rw[aH,hr]
   simp only;rw[p];omega
abbrev mP(x:Option Addr):List Value:= [.pointer x]
theorem mO(x:Option Addr):(mP x).length=1∧0<1:=⟨rfl,by omega⟩
theorem wF:∀xs:List (Option Addr),bq (xs.flatMap mP)=true
 | []=>rfl
 |x::xs=>by rw[aD];exact iM rfl (wF xs)
theorem zW{h:ac}{a b o c f d e:Nat}{j cw:Array Value}{k tb:TypeId}(g:h[a]? =some (.cells j k (0,0))) (p:h[b]? =some (.cells cw tb (0,0))) (q:a≠b) (m:cw.size≠0) {K:Bool→ac→Prop} (n:K false h):
  HC PG eJ [.slice (some ⟨a,0,none⟩) c f,.slice (some ⟨b,o,none⟩) d e] [.c .bool] K h:=by
 refine⟨fun w i=>.inr ⟨.bool false,w,?_,Tame.refl w,false,rfl,i▸n⟩⟩
 subst i;rw[lN];have:=Lib.run_overlaps_apart (P:=PG) w lZ qg aW (by kernel_rfl) (bi PG aW) (lH (by kernel_rfl)) ⟨a,0,none⟩ ⟨b,o,none⟩ c f d e q k tb j.size cw.size
  (by simp[World.shape?,g]) (by simp[World.shape?,p]) m (by simp[World.frozen?,g]) (by simp[World.frozen?,g])
 rw[show([Value.slice (some ⟨a,0,none⟩) c f,Value.slice (some ⟨b,o,none⟩) d e]:List Value).toArray= #[.slice (some ⟨a,0,none⟩) c f,.slice (some ⟨b,o,none⟩) d e]from rfl,this]
 rfl
set_option maxRecDepth 4000 in
theorem CO{M:Nat→Prop}{h:ac}{s:SliceV}{xs:List (Option Addr)}(T:OwnS mP 1 aW M h s xs){k:Nat}(hkl:k≤xs.length)(hn:(xs.length+1)*8≤140737488355328){x:Option Addr}{m:Nat}(D:h[m]? =some (.cells (mP x).toArray aW (0,0)))
  (Z:¬M m) (hM:∀b,h.size≤b→M b) {K:SliceV→ac→Prop} (hK:∀s' h',OwnS mP 1 aW M h' s' (xs.take k++x::xs.drop k)→Upd M h h'→K s' h'):
  HC PG bH [.slice s.a s.len s.cap,.int .i64 k,.slice (some ⟨m,0,none⟩) 1 1] [.c .slice] K h:=by
 refine gT s k ⟨some ⟨m,0,none⟩,1,1⟩ ?_;unfold dY;have p:=T.len;have hcap:=T.cap;have F:SRow h (some ⟨m,0,none⟩) (1*1) (mP x):=⟨rfl,.inr ⟨_,rfl,nu D fun i v hi=>by simpa using hi⟩⟩
 refine⟨by omega,ak.2 ?_⟩;refine CondP.intro (fun e=>?_) fun e=>?_
 ·have e:k=xs.length:=by have:=of_decide_eq_true (by simpa using e:decide ((k:Int)=(s.len:Int))=true);omega
  subst e;refine⟨_,F,AppP.own (ys:= [x]) T rfl (by simp) rfl rfl (by omega) (by simp;omega) (hM _ (ar _)) fun s' h' ho hu=>hK s' h' ?_ hu⟩
  rw[bJ,List.drop_length];exact ho
 have hlt:k<xs.length:=by
  rcases cj k xs.length with h|h
  ·exact h
  ·have:((k:Int)==(s.len:Int))=true:=by rw[beq_iff_eq];omega
   rw[this]at e;cases e
 rcases T.blk with h0|⟨b,j,ha,t,hc,hr⟩
 ·omega
 have g:((xs.take k).flatMap mP).length=k*1:=by rw[ia mO,aY,aX hkl]
 have u:((xs.drop k).flatMap mP).length=(xs.length-k)*1:=by rw[ia mO,aH]
 have J:m≠b:=fun e=>Z (e▸t)
 rw[sy (f:=mP) xs k]at hc;have a:(xs.take k++x::xs.drop k).flatMap mP=(xs.take k).flatMap mP++(mP x++(xs.drop k).flatMap mP):=by rw[bo,aD]
 have d:=wF (xs.drop k);have c:(mP x).length=1:=rfl;have C:bq (mP x)=true:=rfl;generalize hAe:(xs.take k).flatMap mP=A at g hc a;generalize hBe:(xs.drop k).flatMap mP=B at u hc a d;generalize mP x=X at F c D a C;rw[ha];have w1:IntKind.wrap .i64 ((xs.length:Int)+((1:Nat):Int))=((xs.length+1:Nat):Int):=by rw[pL (by omega)];omega
 have w2:IntKind.wrap .i64 ((k:Int)+((1:Nat):Int))=((k+1:Nat):Int):=by rw[pL (by omega)];omega
 have w3:IntKind.wrap .i64 (((xs.length+1:Nat):Int)-(k:Int))=((xs.length+1-k:Nat):Int):=by rw[pL (by omega)];omega
 simp only[w1,w2,w3,aM,p];refine aU (fun hgt=>?_) fun hle=>?_
 ·
  have G:s.cap=xs.length:=by omega
  refine Join.plain ⟨by omega,⟨by omega,by omega,by omega,by omega⟩,fun hin=>?_,fun I=>?_⟩
  ·omega
  ·refine⟨A,_,?_,rfl,by omega,Go.growslice_fits I (by omega),fun E y=>?_⟩
   ·rw[sub_zero]
    exact il hc (by rw[g];omega) (by simp only[cK,dT];rw[aj,←g,df (ar _),bJ])
   ·simp only[aM]at y⊢
    have U:=Upd.hnew No h (A++cq (xs.length+1-k) [.pointer none]++cq (E-(k-0+(xs.length+1-k))) [.pointer none]) aW;have bn:=bh h (A++cq (xs.length+1-k) [.pointer none]++cq (E-(k-0+(xs.length+1-k))) [.pointer none]) aW;have w:(cq (xs.length+1-k) [.pointer none]).length=(xs.length+1-k)*1:=gQ _ _;have hz2:(cq (E-(k-0+(xs.length+1-k))) [.pointer none]).length=(E-(k-0+(xs.length+1-k)))*1:=gQ _ _
    have o:k-0+(xs.length+1-k)=xs.length+1:=by omega
    rw[bS];have hsz:h.size≠m:=fun e=>by have:=bG D;omega
    have P:h.size≠b:=fun e=>by have:=bG hc;omega
    have L:=U.get0 hc;have H:=U.get0 D;generalize hnew h _ aW=h9 at U bn L H;rw[o]at y hz2⊢;have m1:cE 1 (xs.length+1-k)=1:=aX (by omega);have m2:cE (xs.length-k) (xs.length+1-(k+1))=xs.length-k:=aX (by omega);rw[m1];have Y:SRow h9 (some ⟨m,0,none⟩) (1*1) X:=il H (by rw[c]) (by rw[cK,be];rw[c];omega)
    refine⟨by omega,?_⟩;rw[gg (by omega)];refine gS Y C bn (by simp only[ae,g,w];omega) fun h11 Q n=>⟨by omega,?_⟩
    simp only[Bd];rw[gg (by omega),gg (by omega),m2];refine⟨by omega,?_⟩;have z:=n.get L (fun e=>P e.symm)
    have V:SRow h11 (some ⟨b,0+k*1,none⟩) ((xs.length-k)*1) B:=il z u (by
     rw[aw,aj,←g,iA,←u,iy])
    refine gS V d Q ?_ fun h16 N S=>?_
    ·simp only[ae,aY,aH,g,w,c];omega
    ·refine hK _ _ ⟨by simp;omega,mO,y,.inr ⟨h.size,cq (E-(xs.length+1)) [.pointer none],rfl,hM _ (ar _),?_,by rw[gQ];rfl⟩⟩ ((U.wide.trans (M':=(· =h.size)) n fun b t=>.inl (t▸hM _ (ar _))).trans (M':=(· =h.size)) S fun b t=>.inl (t▸hM _ (ar _)))
     rw[N,a];have:=Ab (A:=A) (X:=X) (B:=B) (Z1:=cq (xs.length+1-k) [.pointer none]) (Z2:=cq (E-(xs.length+1)) [.pointer none]) (r:=(xs.length-k)*1) g c (by rw[w,←d5];congr 1;omega);rw[o,←this];simp only[aw,d5,lW]
 ·have G:xs.length+1≤s.cap:=by omega
  refine⟨by omega,?_⟩;simp only[Bd,dT];rw[sub_zero,gg (show s.cap≠k+1 by omega),gg (show s.cap≠k by omega)]
  refine⟨by omega,?_⟩;have hrl:1≤j.length:=by rw[hr];exact kB _ (by omega)
  refine zW D hc J (by rw[cx,ae];omega) ?_;refine aA.2 ⟨by omega,by omega,?_⟩
  have m1:cE 1 (xs.length+1-k)=1:=aX (by omega);have m2:cE (xs.length+1-k) (xs.length+1-(k+1))=xs.length-k:=by
   rw[show xs.length+1-(k+1)=xs.length-k by omega];exact li (by omega)
  rw[m2];have V:SRow h (some ⟨b,0+k*1,none⟩) ((xs.length-k)*1) B:=il hc u (by
   rw[aw,aj,←g,iA,←u,iy])
  refine gS V d hc (by simp only[ae,g,u];omega) fun h1 hb1 O=>⟨by omega,?_⟩
  rw[m1];have xr1:SRow h1 (some ⟨m,0,none⟩) (1*1) X:=il (O.get D J) (by rw[c]) (by rw[cK,be];rw[c];omega);refine gS xr1 C hb1 (by simp only[ae,aY,aH,g,u];omega) fun h2 W hu2=>?_
  refine hK _ _ ⟨by simp;omega,mO,G,.inr ⟨b,j.drop 1,rfl,t,?_,?_⟩⟩ ((O.mono fun _ e=>.inl (e▸t)).tr (hu2.mono fun _ e=>.inl (e▸t)))
  ·rw[W,a]
   have:=CP (A:=A) (X:=X) (B:=B) (R:=j) (q:=1) (r:=(xs.length-k)*1) g u hrl;rw[←this];simp only[aw,d5,lW]
  ·rw[aH,hr]
   simp only;rw[p];omega
abbrev vB(x:Option Addr):List Value:= [.pointer x]
theorem mJ(x:Option Addr):(vB x).length=1∧0<1:=⟨rfl,by omega⟩
theorem zX:∀xs:List (Option Addr),bq (xs.flatMap vB)=true
 | []=>rfl
 |x::xs=>by rw[aD];exact iM rfl (zX xs)
theorem zU{h:ac}{a b o c f d e:Nat}{j cw:Array Value}{k tb:TypeId}(g:h[a]? =some (.cells j k (0,0))) (p:h[b]? =some (.cells cw tb (0,0))) (q:a≠b) (m:cw.size≠0) {K:Bool→ac→Prop} (n:K false h):
  HC PG ep [.slice (some ⟨a,0,none⟩) c f,.slice (some ⟨b,o,none⟩) d e] [.c .bool] K h:=by
 refine⟨fun w i=>.inr ⟨.bool false,w,?_,Tame.refl w,false,rfl,i▸n⟩⟩
 subst i;rw[ld];have:=Lib.run_overlaps_apart (P:=PG) w kP qg ba (by kernel_rfl) (bi PG ba) (lH (by kernel_rfl)) ⟨a,0,none⟩ ⟨b,o,none⟩ c f d e q k tb j.size cw.size
  (by simp[World.shape?,g]) (by simp[World.shape?,p]) m (by simp[World.frozen?,g]) (by simp[World.frozen?,g])
 rw[show([Value.slice (some ⟨a,0,none⟩) c f,Value.slice (some ⟨b,o,none⟩) d e]:List Value).toArray= #[.slice (some ⟨a,0,none⟩) c f,.slice (some ⟨b,o,none⟩) d e]from rfl,this]
 rfl
set_option maxRecDepth 4000 in
theorem CM{M:Nat→Prop}{h:ac}{s:SliceV}{xs:List (Option Addr)}(T:OwnS vB 1 ba M h s xs){k:Nat}(hkl:k≤xs.length)(hn:(xs.length+1)*8≤140737488355328){x:Option Addr}{m:Nat}(D:h[m]? =some (.cells (vB x).toArray ba (0,0)))
  (Z:¬M m) (hM:∀b,h.size≤b→M b) {K:SliceV→ac→Prop} (hK:∀s' h',OwnS vB 1 ba M h' s' (xs.take k++x::xs.drop k)→Upd M h h'→K s' h'):
  HC PG cM [.slice s.a s.len s.cap,.int .i64 k,.slice (some ⟨m,0,none⟩) 1 1] [.c .slice] K h:=by
 refine gx s k ⟨some ⟨m,0,none⟩,1,1⟩ ?_;unfold dP;have p:=T.len;have hcap:=T.cap;have F:SRow h (some ⟨m,0,none⟩) (1*1) (vB x):=⟨rfl,.inr ⟨_,rfl,nu D fun i v hi=>by simpa using hi⟩⟩
 refine⟨by omega,ak.2 ?_⟩;refine CondP.intro (fun e=>?_) fun e=>?_
 ·have e:k=xs.length:=by have:=of_decide_eq_true (by simpa using e:decide ((k:Int)=(s.len:Int))=true);omega
  subst e;refine⟨_,F,AppP.own (ys:= [x]) T rfl (by simp) rfl rfl (by omega) (by simp;omega) (hM _ (ar _)) fun s' h' ho hu=>hK s' h' ?_ hu⟩
  rw[bJ,List.drop_length];exact ho
 have hlt:k<xs.length:=by
  rcases cj k xs.length with h|h
  ·exact h
  ·have:((k:Int)==(s.len:Int))=true:=by rw[beq_iff_eq];omega
   rw[this]at e;cases e
 rcases T.blk with h0|⟨b,j,ha,t,hc,hr⟩
 ·omega
 have g:((xs.take k).flatMap vB).length=k*1:=by rw[ia mJ,aY,aX hkl]
 have u:((xs.drop k).flatMap vB).length=(xs.length-k)*1:=by rw[ia mJ,aH]
 have J:m≠b:=fun e=>Z (e▸t)
 rw[sy (f:=vB) xs k]at hc;have a:(xs.take k++x::xs.drop k).flatMap vB=(xs.take k).flatMap vB++(vB x++(xs.drop k).flatMap vB):=by rw[bo,aD]
 have d:=zX (xs.drop k);have c:(vB x).length=1:=rfl;have C:bq (vB x)=true:=rfl;generalize hAe:(xs.take k).flatMap vB=A at g hc a;generalize hBe:(xs.drop k).flatMap vB=B at u hc a d;generalize vB x=X at F c D a C;rw[ha];have w1:IntKind.wrap .i64 ((xs.length:Int)+((1:Nat):Int))=((xs.length+1:Nat):Int):=by rw[pL (by omega)];omega
 have w2:IntKind.wrap .i64 ((k:Int)+((1:Nat):Int))=((k+1:Nat):Int):=by rw[pL (by omega)];omega
 have w3:IntKind.wrap .i64 (((xs.length+1:Nat):Int)-(k:Int))=((xs.length+1-k:Nat):Int):=by rw[pL (by omega)];omega
 simp only[w1,w2,w3,aM,p];refine aU (fun hgt=>?_) fun hle=>?_
 ·
  have G:s.cap=xs.length:=by omega
  refine Join.plain ⟨by omega,⟨by omega,by omega,by omega,by omega⟩,fun hin=>?_,fun I=>?_⟩
  ·omega
  ·refine⟨A,_,?_,rfl,by omega,Go.growslice_fits I (by omega),fun E y=>?_⟩
   ·rw[sub_zero]
    exact il hc (by rw[g];omega) (by simp only[cK,dT];rw[aj,←g,df (ar _),bJ])
   ·simp only[aM]at y⊢
    have U:=Upd.hnew No h (A++cq (xs.length+1-k) [.pointer none]++cq (E-(k-0+(xs.length+1-k))) [.pointer none]) ba;have bn:=bh h (A++cq (xs.length+1-k) [.pointer none]++cq (E-(k-0+(xs.length+1-k))) [.pointer none]) ba;have w:(cq (xs.length+1-k) [.pointer none]).length=(xs.length+1-k)*1:=gQ _ _;have hz2:(cq (E-(k-0+(xs.length+1-k))) [.pointer none]).length=(E-(k-0+(xs.length+1-k)))*1:=gQ _ _
    have o:k-0+(xs.length+1-k)=xs.length+1:=by omega
    rw[bS];have hsz:h.size≠m:=fun e=>by have:=bG D;omega
    have P:h.size≠b:=fun e=>by have:=bG hc;omega
    have L:=U.get0 hc;have H:=U.get0 D;generalize hnew h _ ba=h9 at U bn L H;rw[o]at y hz2⊢;have m1:cE 1 (xs.length+1-k)=1:=aX (by omega);have m2:cE (xs.length-k) (xs.length+1-(k+1))=xs.length-k:=aX (by omega);rw[m1];have Y:SRow h9 (some ⟨m,0,none⟩) (1*1) X:=il H (by rw[c]) (by rw[cK,be];rw[c];omega)
    refine⟨by omega,?_⟩;rw[gg (by omega)];refine gS Y C bn (by simp only[ae,g,w];omega) fun h11 Q n=>⟨by omega,?_⟩
    simp only[Bd];rw[gg (by omega),gg (by omega),m2];refine⟨by omega,?_⟩;have z:=n.get L (fun e=>P e.symm)
    have V:SRow h11 (some ⟨b,0+k*1,none⟩) ((xs.length-k)*1) B:=il z u (by
     rw[aw,aj,←g,iA,←u,iy])
    refine gS V d Q ?_ fun h16 N S=>?_
    ·simp only[ae,aY,aH,g,w,c];omega
    ·refine hK _ _ ⟨by simp;omega,mJ,y,.inr ⟨h.size,cq (E-(xs.length+1)) [.pointer none],rfl,hM _ (ar _),?_,by rw[gQ];rfl⟩⟩ ((U.wide.trans (M':=(· =h.size)) n fun b t=>.inl (t▸hM _ (ar _))).trans (M':=(· =h.size)) S fun b t=>.inl (t▸hM _ (ar _)))
     rw[N,a];have:=Ab (A:=A) (X:=X) (B:=B) (Z1:=cq (xs.length+1-k) [.pointer none]) (Z2:=cq (E-(xs.length+1)) [.pointer none]) (r:=(xs.length-k)*1) g c (by rw[w,←d5];congr 1;omega);rw[o,←this];simp only[aw,d5,lW]
 ·have G:xs.length+1≤s.cap:=by omega
  refine⟨by omega,?_⟩;simp only[Bd,dT];rw[sub_zero,gg (show s.cap≠k+1 by omega),gg (show s.cap≠k by omega)]
  refine⟨by omega,?_⟩;have hrl:1≤j.length:=by rw[hr];exact kB _ (by omega)
  refine zU D hc J (by rw[cx,ae];omega) ?_;refine aA.2 ⟨by omega,by omega,?_⟩
  have m1:cE 1 (xs.length+1-k)=1:=aX (by omega);have m2:cE (xs.length+1-k) (xs.length+1-(k+1))=xs.length-k:=by
   rw[show xs.length+1-(k+1)=xs.length-k by omega];exact li (by omega)
  rw[m2];have V:SRow h (some ⟨b,0+k*1,none⟩) ((xs.length-k)*1) B:=il hc u (by
   rw[aw,aj,←g,iA,←u,iy])
  refine gS V d hc (by simp only[ae,g,u];omega) fun h1 hb1 O=>⟨by omega,?_⟩
  rw[m1];have xr1:SRow h1 (some ⟨m,0,none⟩) (1*1) X:=il (O.get D J) (by rw[c]) (by rw[cK,be];rw[c];omega);refine gS xr1 C hb1 (by simp only[ae,aY,aH,g,u];omega) fun h2 W hu2=>?_
  refine hK _ _ ⟨by simp;omega,mJ,G,.inr ⟨b,j.drop 1,rfl,t,?_,?_⟩⟩ ((O.mono fun _ e=>.inl (e▸t)).tr (hu2.mono fun _ e=>.inl (e▸t)))
  ·rw[W,a]
   have:=CP (A:=A) (X:=X) (B:=B) (R:=j) (q:=1) (r:=(xs.length-k)*1) g u hrl;rw[←this];simp only[aw,d5,lW]
  ·rw[aH,hr]
   simp only;rw[p];omega
end Go.Proofs
namespace Go.Proofs
open Go Go.Lift
theorem uV{W:Nat→Prop}{h:ac}{s:SliceV}{xs:List (ByteArray×ByteArray)}(d:Sl jq 2 W h s xs)(o:xs.length*32≤140737488355328){K:SliceV→ac→Prop}
  (g:∀s' h',OwnS jq 2 ah (fun b=>h.size≤b) h' s' xs→Upd No h h'→K s' h'):HC PG cD [.slice s.a s.len s.cap] [.c .slice] K h:=by
 refine jm s ?_;unfold eY uw;refine CondP.intro (fun c=>?_) (fun i=>?_)
 ·have c:s.a=none:=by simpa using c
  have hx:xs= []:=by
   by_cases hx:xs= []
   ·exact hx
   ·obtain⟨a,e,_⟩:=d.row hx
    rw[c]at e;cases e
  subst hx;exact g _ _ (OwnS.nil ip) (Upd.refl _ _)
 ·have k:=d.upd (Upd.hnew No h [] ah) (fun _ h=>h.elim)
  refine⟨_,k.srow,?_⟩;refine AppP.own (f:=jq) (M:=fun b=>h.size≤b) (xs:= []) (ys:=xs) ⟨rfl,ip,ar _,.inl rfl⟩ d.len rfl (qW xs) rfl (by omega) (by simpa using o) (by rw[eO];omega) fun s' h' j m=>?_
  exact g _ _ j ((Upd.hnew No h [] ah).trans m fun b n=>.inr n)
theorem CZ{M:Nat→Prop}{h:ac}{s:SliceV}{xs:List (ByteArray×ByteArray)}(t:OwnS jq 2 ah M h s xs){k:Nat}(z:k<xs.length)(P:xs.length≤4398046511104)
  {K:SliceV→ac→Prop}(G:∀s' h',OwnS jq 2 ah M h' s' (xs.take k++xs.drop (k+1))→Upd M h h'→K s' h'):
  HC PG c8 [.slice s.a s.len s.cap,.int .i64 k,.int .i64 ((k+1:Nat):Int)] [.c .slice] K h:=by
 refine iY s k ((k+1:Nat):Int) ?_;unfold eR uw;have f:=t.len;have C:=t.cap;rcases t.blk with O|⟨b,a,I,w,hc,F⟩
 ·omega
 have p:((xs.take k).flatMap jq).length=k*2:=by rw[ia ip,aY,aX (by omega)]
 have m:((xs.drop (k+1)).flatMap jq).length=(xs.length-(k+1))*2:=by rw[ia ip,aH]
 have H:xs.flatMap jq=(xs.take k).flatMap jq++(jq xs[k]++(xs.drop (k+1)).flatMap jq):=by
  rw[←aD,←je z];exact sy xs k
 rw[H]at hc;have d:=qW (xs.drop (k+1));have c:(xs.take k++xs.drop (k+1)).flatMap jq=(xs.take k).flatMap jq++(xs.drop (k+1)).flatMap jq:=bo;have E:(jq xs[k]).length=2:=rfl;generalize (xs.take k).flatMap jq=A at p hc c;generalize (xs.drop (k+1)).flatMap jq=B at m hc d c;generalize jq xs[k]=X at E hc;rw[I];simp only[f,aM];refine⟨by omega,by omega,by omega,CondP.intro (fun e=>?_) fun _=>?_⟩
 ·have:(k:Int)=((k+1:Nat):Int):=by simpa using e
  omega
 refine Join.plain ⟨by omega,by omega,B,?_,?_⟩
 ·by_cases i:xs.length=k+1
  ·exact⟨m,.inl (bV.1 (by rw[m,i,pK,Nat.zero_mul]))⟩
  rw[gg (by omega)];refine il hc m ?_;have:(A++X).length=0+(k+1)*2:=by rw[ae];omega
  rw[show A++(X++B)++a=(A++X)++(B++a) by simp only[aj],bL this,cp m]
 ·rw[sub_zero]
  refine Gr hc (by simp only[ae];omega) (by omega) d fun N j y=>?_
  have q:a.length=(s.cap-xs.length)*2:=by rw[F,f]
  refine⟨by dsimp only;omega,by dsimp only;omega,?_⟩
  simp only[Bd];rw[gg (by omega)];have J:xs.length-(k-0+(xs.length-(k+1)))=1:=by omega
  have x:(A++(X++B)++a).drop ((k-0)*2+B.length)=(X++B).drop B.length++a:=by
   rw[aj,←cz,bL (show A.length=(k-0)*2 by rw[p,dT]),eL (by rw[ae];omega)]
  have v:(A++(X++B)++a).take ((k-0)*2)=A:=by rw[aj,cp (show A.length=(k-0)*2 by rw[p,dT])]
  rw[x,v]at j;have o:((X++B).drop B.length).length=2:=by rw[aH,ae];omega
  generalize (X++B).drop B.length=D at o j;rw[J];have L:(cq 1 [.string (⟨#[]⟩:ByteArray),.string (⟨#[]⟩:ByteArray)]).length=2:=rfl;have g:(A++B).length=0+(k-0+(xs.length-(k+1)))*2:=by rw[ae,p,m];omega
  refine zS j (by simp only[ae]at g⊢;omega) fun Q n u=>?_
  rw[cp g,←cz,bL g]at n;refine G _ _ ⟨by simp;omega,ip,by simp only;omega,.inr ⟨b,cq 1 [.string (⟨#[]⟩:ByteArray),.string (⟨#[]⟩:ByteArray)]++(D++a).drop (cq 1 [.string (⟨#[]⟩:ByteArray),.string (⟨#[]⟩:ByteArray)]).length,rfl,w,?_,?_⟩⟩ ((y.mono fun _ e=>.inl (e▸w)).tr (u.mono fun _ e=>.inl (e▸w)))
  ·rw[n,c];simp only[aj]
  ·simp only[ae,aH,L,o,q]
   omega
theorem uW{W:Nat→Prop}{h:ac}{s:SliceV}{xs:List (Option Addr)}(d:Sl mP 1 W h s xs)(o:xs.length*8≤140737488355328){K:SliceV→ac→Prop}
  (g:∀s' h',OwnS mP 1 aW (fun b=>h.size≤b) h' s' xs→Upd No h h'→K s' h'):HC PG ci [.slice s.a s.len s.cap] [.c .slice] K h:=by
 refine hE s ?_;unfold ef;refine CondP.intro (fun c=>?_) (fun i=>?_)
 ·have c:s.a=none:=by simpa using c
  have hx:xs= []:=by
   by_cases hx:xs= []
   ·exact hx
   ·obtain⟨a,e,_⟩:=d.row hx
    rw[c]at e;cases e
  subst hx;exact g _ _ (OwnS.nil mO) (Upd.refl _ _)
 ·have k:=d.upd (Upd.hnew No h [] aW) (fun _ h=>h.elim)
  refine⟨_,k.srow,?_⟩;refine AppP.own (f:=mP) (M:=fun b=>h.size≤b) (xs:= []) (ys:=xs) ⟨rfl,mO,ar _,.inl rfl⟩ d.len rfl (wF xs) rfl (by omega) (by simpa using o) (by rw[eO];omega) fun s' h' j m=>?_
  exact g _ _ j ((Upd.hnew No h [] aW).trans m fun b n=>.inr n)
theorem C0{M:Nat→Prop}{h:ac}{s:SliceV}{xs:List (Option Addr)}(t:OwnS mP 1 aW M h s xs){k:Nat}(z:k<xs.length)(P:xs.length≤4398046511104)
  {K:SliceV→ac→Prop}(G:∀s' h',OwnS mP 1 aW M h' s' (xs.take k++xs.drop (k+1))→Upd M h h'→K s' h'):
  HC PG cP [.slice s.a s.len s.cap,.int .i64 k,.int .i64 ((k+1:Nat):Int)] [.c .slice] K h:=by
 refine gV s k ((k+1:Nat):Int) ?_;unfold dZ;have f:=t.len;have C:=t.cap;rcases t.blk with O|⟨b,a,I,w,hc,F⟩
 ·omega
 have p:((xs.take k).flatMap mP).length=k*1:=by rw[ia mO,aY,aX (by omega)]
 have m:((xs.drop (k+1)).flatMap mP).length=(xs.length-(k+1))*1:=by rw[ia mO,aH]
 have H:xs.flatMap mP=(xs.take k).flatMap mP++(mP xs[k]++(xs.drop (k+1)).flatMap mP):=by
  rw[←aD,←je z];exact sy xs k
 rw[H]at hc;have d:=wF (xs.drop (k+1));have c:(xs.take k++xs.drop (k+1)).flatMap mP=(xs.take k).flatMap mP++(xs.drop (k+1)).flatMap mP:=bo;have E:(mP xs[k]).length=1:=rfl;generalize (xs.take k).flatMap mP=A at p hc c;generalize (xs.drop (k+1)).flatMap mP=B at m hc d c;generalize mP xs[k]=X at E hc;rw[I];simp only[f,aM];refine⟨by omega,by omega,by omega,CondP.intro (fun e=>?_) fun _=>?_⟩
 ·have:(k:Int)=((k+1:Nat):Int):=by simpa using e
  omega
 refine Join.plain ⟨by omega,by omega,B,?_,?_⟩
 ·by_cases i:xs.length=k+1
  ·exact⟨m,.inl (bV.1 (by rw[m,i,pK,Nat.zero_mul]))⟩
  rw[gg (by omega)];refine il hc m ?_;have:(A++X).length=0+(k+1)*1:=by rw[ae];omega
  rw[show A++(X++B)++a=(A++X)++(B++a) by simp only[aj],bL this,cp m]
 ·rw[sub_zero]
  refine Gr hc (by simp only[ae];omega) (by omega) d fun N j y=>?_
  have q:a.length=(s.cap-xs.length)*1:=by rw[F,f]
  refine⟨by dsimp only;omega,by dsimp only;omega,?_⟩
  simp only[Bd];rw[gg (by omega)];have J:xs.length-(k-0+(xs.length-(k+1)))=1:=by omega
  have x:(A++(X++B)++a).drop ((k-0)*1+B.length)=(X++B).drop B.length++a:=by
   rw[aj,←cz,bL (show A.length=(k-0)*1 by rw[p,dT]),eL (by rw[ae];omega)]
  have v:(A++(X++B)++a).take ((k-0)*1)=A:=by rw[aj,cp (show A.length=(k-0)*1 by rw[p,dT])]
  rw[x,v]at j;have o:((X++B).drop B.length).length=1:=by rw[aH,ae];omega
  generalize (X++B).drop B.length=D at o j;rw[J];have L:(cq 1 [.pointer none]).length=1:=rfl;have g:(A++B).length=0+(k-0+(xs.length-(k+1)))*1:=by rw[ae,p,m];omega
  refine zS j (by simp only[ae]at g⊢;omega) fun Q n u=>?_
  rw[cp g,←cz,bL g]at n;refine G _ _ ⟨by simp;omega,mO,by simp only;omega,.inr ⟨b,cq 1 [.pointer none]++(D++a).drop (cq 1 [.pointer none]).length,rfl,w,?_,?_⟩⟩ ((y.mono fun _ e=>.inl (e▸w)).tr (u.mono fun _ e=>.inl (e▸w)))
  ·rw[n,c];simp only[aj]
  ·simp only[ae,aH,L,o,q]
   omega
theorem EI{W:Nat→Prop}{h:ac}{s:SliceV}{xs:List (Option Addr)}(d:Sl vB 1 W h s xs)(o:xs.length*8≤140737488355328){K:SliceV→ac→Prop}
  (g:∀s' h',OwnS vB 1 ba (fun b=>h.size≤b) h' s' xs→Upd No h h'→K s' h'):HC PG cO [.slice s.a s.len s.cap] [.c .slice] K h:=by
 refine gL s ?_;unfold dS;refine CondP.intro (fun c=>?_) (fun i=>?_)
 ·have c:s.a=none:=by simpa using c
  have hx:xs= []:=by
   by_cases hx:xs= []
   ·exact hx
   ·obtain⟨a,e,_⟩:=d.row hx
    rw[c]at e;cases e
  subst hx;exact g _ _ (OwnS.nil mJ) (Upd.refl _ _)
 ·have k:=d.upd (Upd.hnew No h [] ba) (fun _ h=>h.elim)
  refine⟨_,k.srow,?_⟩;refine AppP.own (f:=vB) (M:=fun b=>h.size≤b) (xs:= []) (ys:=xs) ⟨rfl,mJ,ar _,.inl rfl⟩ d.len rfl (zX xs) rfl (by omega) (by simpa using o) (by rw[eO];omega) fun s' h' j m=>?_
  exact g _ _ j ((Upd.hnew No h [] ba).trans m fun b n=>.inr n)
end Go.Proofs
namespace Go.Proofs
open Go.Lift
abbrev Pr:=ByteArray×ByteArray
theorem uX{a b:ByteArray}:a.toList=b.toList↔a=b:=by
 constructor
 ·intro h
  rw[ByteArray.toList_eq,ByteArray.toList_eq]at h;cases a;cases b;simp at h;subst h;rfl
 ·rintro rfl;rfl
def kl(a b:ByteArray):Prop:=Op.bytesLess a.toList b.toList=true
instance (a b:ByteArray):Decidable (kl a b):=inferInstanceAs (Decidable (_=true))
theorem CF{a b:ByteArray}:kl a b↔a.toList<b.toList:=by unfold kl;rw[bytesLess_eq,decide_eq_true_iff]
theorem dD(a:ByteArray):¬kl a a:=by rw[CF];exact List.lt_irrefl _
theorem lD{a b c:ByteArray}(h:kl a b)(k:kl b c):kl a c:=by rw[CF]at*;exact List.lt_trans h k
theorem tri:∀x y:List UInt8,Op.bytesLess x y=false→x≠y→Op.bytesLess y x=true
 | [],[],_,h=>absurd rfl h
 | [],_::_,h,_=>by simp[Op.bytesLess]at h
 |_::_,[],_,_=>rfl
 |a::x,b::y,h,hn=>by
  simp only[Op.bytesLess,Bool.or_eq_false_iff,decide_eq_false_iff_not,Bool.and_eq_false_iff]at h;simp only[Op.bytesLess,Bool.or_eq_true,decide_eq_true_iff,Bool.and_eq_true];by_cases e:a=b
  ·subst e
   right;refine⟨by simp,tri x y ?_ fun e=>hn (by rw[e])⟩
   rcases h.2 with h|h
   ·simp at h
   ·exact h
  ·left
   have c:=h.1;rw[UInt8.lt_iff_toNat_lt]at c⊢;have:a.toNat≠b.toNat:=fun h=>e (UInt8.toNat_inj.1 h)
   omega
theorem Aa{a b:ByteArray}(h:¬kl a b)(k:a≠b):kl b a:=tri _ _ (by unfold kl at h;simpa using h) fun e=>k (uX.1 e)
def BI(a b:ByteArray):Int:=if kl a b then-1 else if a=b then 0 else 1
theorem Bu{x:ByteArray}{h:ac}{K:Bool→ac→Prop}(a:K false h):HC PG jE [.string x] [.c .bool] K h:=by
 refine wy x ?_;unfold p6;simpa using a
theorem C1{a b:ByteArray}{h:ac}{K:Int→ac→Prop}(c:K (BI a b) h):HC PG kj [.string a,.string b] [.c (.int .i64)] K h:=by
 refine uc a b ?_;unfold oq;refine Bu (Bu (ak.2 (ak.2 ?_)));unfold BI at c;refine CondP.intro (fun e=>?_) fun e=>?_
 ·rw[if_pos (show kl a b from e)]at c;exact c
 ·have f:¬kl a b:=fun h=>by rw[show Op.bytesLess a.toList b.toList=true from h]at e;cases e
  rw[if_neg f]at c;rw[e];refine CondP.intro (fun d=>?_) fun d=>?_
  ·rw[if_neg (fun h=>by subst h;simp at d)]at c;exact c
  ·have:a.toList=b.toList:=by simpa using d
   rw[if_pos (uX.1 this)]at c;exact c
theorem FP{p:Pr}{k:ByteArray}{h:ac}{K:Int→ac→Prop}(a:∀h',Upd No h h'→K (BI p.1 k) h'):HC PG mB [.agg #[.string p.1,.string p.2],.string k] [.c (.int .i64)] K h:=by
 refine AD p k ?_;unfold uj aB wY wE;have b1:=bh h [.string p.1,.string p.2] ah;refine⟨p.1,by rw[bS,bp,aE b1];rfl,C1 (a _ (Upd.hnew No h _ _))⟩
abbrev dJ(l:List Pr):Prop:=l.Pairwise fun p q=>kl p.1 q.1
def pos(l:List Pr)(k:ByteArray):Nat:=(l.takeWhile fun p=>decide (kl p.1 k)).length
def di(l:List Pr)(k:ByteArray):Bool:=l.any fun p=>decide (p.1=k)
theorem FK{l:List Pr}{k:ByteArray}{i:Nat}(hi:i≤l.length)(c:∀j (h:j<l.length),j<i→kl l[j].1 k)(a:∀(h:i<l.length),¬kl l[i].1 k):pos l k=i:=by
 unfold pos;induction l generalizing i with
 |nil=>simp at hi;simp[hi]
 |cons p l ih=>
  rw[List.takeWhile_cons];cases i with
  |zero=>
   have:=a (by simp);simp only[List.getElem_cons_zero]at this;rw[if_neg (by simpa using this)];rfl
  |succ i=>
   have:=c 0 (by simp) (by omega);simp only[List.getElem_cons_zero]at this;rw[if_pos (by simpa using this),aI];congr 1
   refine ih (by simpa using hi) (fun j e d=>?_) fun h=>?_
   ·have:=c (j+1) (by simpa using e) (by omega)
    simpa using this
   ·have:=a (by simpa using h)
    simpa using this
theorem Ir(l:List Pr)(k:ByteArray):pos l k≤l.length:=by
 unfold pos;exact(List.takeWhile_prefix _).length_le
theorem DN{W:Nat→Prop}{h:ac}{s:SliceV}{l:List Pr}(U:Sl jq 2 W h s l)(hr:dJ l)(hn:l.length≤1000000000)(k:ByteArray){K:Int×Bool→ac→Prop}
  (E:∀h',Upd No h h'→K ((pos l k:Int),di l k) h'):HC PG nL [.slice s.a s.len s.cap,.string k] [.c (.int .i64),.c .bool] K h:=by
 refine BS s k ?_;unfold vT;refine fl s k _ ?_;unfold cW fc eH rF CI;have X:=U.len;have J:∀{p:Pr} {h:ac} {K:Int→ac→Prop},(∀h',Upd No h h'→K (BI p.1 k) h')→HV PG (.func (.func mB) #[] #[]) [.agg #[.string p.1,.string p.2],.string k] [.c (.int .i64)] K h:=fun E=>HV.mk' (FP E)
 refine LoopP.ghost (fun(g:Nat×Nat) (t:Int×Int) h'=>t.1=(g.1:Int)∧t.2=(g.2:Int)∧g.1≤g.2∧g.2≤l.length∧Upd No h h'∧(∀j (Q:j<l.length),j<g.1→kl l[j].1 k)∧(∀j (Q:j<l.length),g.2≤j→¬kl l[j].1 k)) (fun g=>g.2-g.1) (0,l.length)
  ⟨rfl,by simp only;omega,by simp,by simp,Upd.refl _ _,fun j Q h=>by omega,fun j Q h=>by simp only at h;omega⟩ ?_
 rintro I ⟨i,j⟩ ⟨ti,tj⟩ h' ⟨Z,V,C,B,O,f,w⟩ hI;simp only at Z V C B f w;subst Z V;have L:=U.upd O fun _ h=>h.elim
 have mono:∀a b (D:a<l.length) (Y:b<l.length),a<b→kl l[a].1 l[b].1:=fun a b D Y S=>dd.1 hr a b D Y S
 refine aU (fun v=>?_) fun P=>?_
 ·have v:i<j:=by have:(i:Int)<(j:Int):=v;omega
  have em:IntKind.wrap .i64 (eh (IntKind.wrap .u64 (IntKind.wrap .i64 ((i:Int)+(j:Int)))) (2^(min (1:Int).toNat (IntKind.bits .u64))))=(((i+j)/2:Nat):Int):=by
   have e3:(2^(min (1:Int).toNat (IntKind.bits .u64)):Int)=2:=rfl;rw[e3,pL (x:=(i:Int)+(j:Int)) (by omega),Go.IntWalk.u64_in _ (by omega),Int.fdiv_eq_ediv_of_nonneg _ (by omega),pL (by omega)];omega
  refine⟨by decide,?_⟩;simp only[Bd];rw[em];generalize hm:(i+j)/2=m;have z:m<l.length:=by omega
  obtain⟨a,D,_,H⟩:=L.at (au z);refine⟨by omega,a,D,l[m].1,H 0 _ rfl,l[m].2,H 1 _ rfl,J fun h2 u=>?_⟩
  refine aU (fun n=>?_) fun F=>?_
  ·have c:kl l[m].1 k:=by
    unfold BI at n;by_cases c:kl l[m].1 k
    ·exact c
    ·rw[if_neg c]at n;split at n<;>omega
   refine hI (m+1,j) _ _ ⟨by simp only;rw[pL (by omega)];omega,rfl,by simp only;omega,B,O.tr u,fun q y A=>?_,w⟩ (by simp only;omega)
   simp only at A;rcases cj q m with h|h
   ·exact lD (mono q m y z h) c
   ·have:q=m:=by omega
    subst this;exact c
  ·have d:¬kl l[m].1 k:=fun c=>F (by unfold BI;rw[if_pos c];decide)
   refine hI (i,m) _ _ ⟨rfl,rfl,by simp only;omega,by simp only;omega,O.tr u,f,fun q y A G=>?_⟩ (by simp only;omega)
   simp only at A;rcases cj m q with h|h
   ·exact d (lD (mono m q z y h) G)
   ·have:q=m:=by omega
    subst this;exact d G
 ·have C:i=j:=by have:¬(i:Int)<(j:Int):=P;omega
  subst C;have N:pos l k=i:=FK B f fun hi=>w i hi (ar _)
  rw[N]at E;refine aU (fun v=>?_) fun T=>?_
  ·have o:i<l.length:=by have:(i:Int)<(s.len:Int):=v;omega
   obtain⟨a,D,_,H⟩:=L.at (au o);refine⟨by simp only;omega,a,D,l[i].1,H 0 _ rfl,l[i].2,H 1 _ rfl,J fun h2 u=>?_⟩
   have d:=w i o (ar _);have R:(BI l[i].1 k==(0:Int))=di l k:=by
    unfold BI di;rw[if_neg d,Bool.eq_iff_iff,bF];constructor
    ·intro h
     split at h
     ·rename_i e;exact⟨l[i],List.getElem_mem o,decide_eq_true e⟩
     ·simp at h
    ·rintro⟨p,N,e⟩
     have e:=of_decide_eq_true e;obtain⟨q,y,rfl⟩:=List.mem_iff_getElem.1 N;have:q=i:=by
      rcases Nat.lt_trichotomy q i with h|h|h
      ·exact absurd (e▸f q y h) (dD _)
      ·exact h
      ·exact absurd (e▸mono i q o y h) d
     subst this;rw[if_pos e];rfl
   rw[R];exact E _ (O.tr u)
  ·have o:i=l.length:=by have:¬(i:Int)<(s.len:Int):=T;omega
   have R:di l k=false:=by
    unfold di;rw[List.any_eq_false];intro p N e;have e:=of_decide_eq_true e;obtain⟨q,y,rfl⟩:=List.mem_iff_getElem.1 N;exact absurd (e▸f q y (by omega)) (dD _)
   rw[R]at E;exact E _ O
end Go.Proofs
namespace Go.Proofs
open Go.Lift
theorem OwnS.zero{α:Type}{f:α→List Value}{a:Nat}{t:TypeId}{M:Nat→Prop}{h:ac}{s:SliceV}{xs:List α}(d:OwnS f a t M h s xs):OwnS f a t M h ⟨aF s.a 0 s.cap a,0-0,s.cap-0⟩ []:=by
 have i:∀x,(f x).length=a∧0<a:=d.ne;have e:=d.len;have g:=d.cap;refine⟨rfl,i,by simp only;omega,?_⟩
 rcases d.blk with n|⟨b,c,j,k,hc,m⟩
 ·exact .inl (by simp only;omega)
 ·refine .inr ⟨b,xs.flatMap f++c,by rw[j,sub_zero],k,hc,?_⟩
  rw[ae,ia i,m,←Nat.add_mul];simp only;congr 1;omega
def GN:Pr:=(⟨#[]⟩,⟨#[]⟩)
theorem Dm(n:Nat):cq n [.string (⟨#[]⟩:ByteArray),.string (⟨#[]⟩:ByteArray)]=(dU n GN).flatMap jq:=by
 unfold cq;induction n with
 |zero=>rfl
 |succ n ih=>rw[jp,jp,aD,←ih];rfl
theorem Hp{n:Nat}(i:n*32≤140737488355328){h:ac}{K:SliceV→ac→Prop}(a:∀s' h',OwnS jq 2 ah (fun b=>h.size≤b) h' s' []→Upd No h h'→K s' h'):
  HC PG dj [.slice none 0 0,.int .i64 n] [.c .slice] K h:=by
 refine jx ⟨none,0,0⟩ n ?_;unfold fi uw;have e:IntKind.wrap .i64 ((n:Int)-IntKind.wrap .i64 (((0:Nat):Int)-((0:Nat):Int)))=(n:Int):=by rw[pL (x:=((0:Nat):Int)-((0:Nat):Int)) (by omega),pL (by omega)];omega
 refine Join.plain (aU (fun h=>by omega) fun _=>?_)
 simp only[Bd];rw[e];refine aU (fun k=>?_) fun j=>a _ _ (OwnS.nil ip) (Upd.refl _ _)
 refine⟨by omega,⟨by omega,by omega,by omega,by omega⟩,?_⟩
 refine AppP.own (f:=jq) (M:=fun b=>h.size≤b) (xs:= []) (ys:=dU n GN) (OwnS.nil ip) (by simp) (Dm _) (by rw[Dm];exact qW _) rfl (by omega) (by simpa using i) (ar _) fun s' h' c d=>?_
 exact⟨by omega,a _ _ (OwnS.zero c) (d.mono fun b g=>.inr g)⟩
abbrev slF(s:SliceV):List Value:= [.slice s.a s.len s.cap]
def ParS(h:ac):List SliceV→List (List Pr)→Prop
 | [],[]=>True
 |v::vs,l::ls=>Sl jq 2 No h v l∧ParS h vs ls
 |_,_=>False
theorem ParS.upd{h h':ac}(k:Upd No h h'):∀{vs:List SliceV} {ls:List (List Pr)},ParS h vs ls→ParS h' vs ls
 | [],[],_=>trivial
 |_::_,_::_,q=>⟨q.1.upd k fun _ h=>h.elim,ParS.upd k q.2⟩
 | [],_::_,q=>q.elim
 |_::_,[],q=>q.elim
theorem ParS.len{h:ac}:∀{vs:List SliceV} {ls:List (List Pr)},ParS h vs ls→vs.length=ls.length
 | [],[],_=>rfl
 |_::_,_::_,q=>by rw[aI,aI,ParS.len q.2]
 | [],_::_,q=>q.elim
 |_::_,[],q=>q.elim
theorem ParS.at{h:ac}:∀{vs:List SliceV} {ls:List (List Pr)},ParS h vs ls→∀{i:Nat} (h1:i<vs.length) (h2:i<ls.length),Sl jq 2 No h vs[i] ls[i]
 |_::_,_::_,q,0,_,_=>q.1
 |_::_,_::_,q,i+1,h1,h2=>ParS.at q.2 (by simpa using h1) (by simpa using h2)
theorem zl(ls:List (List Pr)){i:Nat}(hi:i<ls.length):(ls.take (i+1)).flatten=(ls.take i).flatten++ls[i]:=by
 rw[List.take_succ_eq_append_getElem hi,ga,fY,List.flatten_nil,List.append_nil]
theorem DL(ls:List (List Pr))(i:Nat):(ls.take i).flatten.length≤ls.flatten.length:=by
 have:ls.flatten=(ls.take i).flatten++(ls.drop i).flatten:=by rw[←ga,List.take_append_drop]
 rw[this,ae];omega
theorem EF{h:ac}{s:SliceV}{vs:List SliceV}{ls:List (List Pr)}(x:Sl slF 1 No h s vs)(B:ParS h vs ls)(P:ls.flatten.length*32≤140737488355328)(V:vs.length≤1000)
  {K:SliceV→ac→Prop}(N:∀s' h',OwnS jq 2 ah (fun b=>h.size≤b) h' s' ls.flatten→Upd No h h'→K s' h'):HC PG c9 [.slice s.a s.len s.cap] [.c .slice] K h:=by
 refine iZ s ?_;unfold eT bA fc uw;have F:=x.len;have d:=B.len;refine LoopP.ghost (fun(i:Nat) (t:Int×Int) h'=>t.2=(i:Int)∧i≤vs.length∧t.1=((ls.take i).flatten.length:Int)∧h'=h) (fun i=>vs.length-i) 0 ⟨rfl,bB _,by simp,rfl⟩ ?_
 rintro I i ⟨W,R⟩ h' ⟨m,hi,E,rfl⟩ O;simp only at m E;subst m E;refine aU (fun c=>?_) fun u=>?_
 ·have c:i<vs.length:=by have:(i:Int)<(s.len:Int):=c;omega
  obtain⟨a,A,_,f⟩:=x.at (au c);have L:=(B.at c (d▸c)).len;have e:=congrArg fj (zl ls (d▸c));rw[ae]at e;have z:=DL ls (i+1);refine Join.plain ⟨by simp only;omega,a,A,_,f 0 _ rfl,?_⟩;simp only;have H:IntKind.wrap .i64 (((ls.take i).flatten.length:Int)+((vs[i]).len:Int))=((ls.take (i+1)).flatten.length:Int):=by rw[pL (by omega)];omega
  rw[H];refine aU (fun h=>by omega) fun _=>?_
  rw[dg c (by omega)];exact O (i+1) _ _ ⟨rfl,c,rfl,rfl⟩ (by omega)
 ·have Q:i=vs.length:=by have:¬(i:Int)<(s.len:Int):=u;omega
  rw[be (by omega)];refine Hp P fun X U v D=>?_
  refine LoopP.ghost (fun(i:Nat) (t:SliceV×Int) w=>t.2=(i:Int)∧i≤vs.length∧OwnS jq 2 ah (fun b=>h'.size≤b) w t.1 (ls.take i).flatten∧Upd No h' w) (fun i=>vs.length-i) 0 ⟨rfl,bB _,by simpa using v,D⟩ ?_
  rintro Y j ⟨Z,tj⟩ w ⟨m,T,p,o⟩ q;simp only at m p;subst m;refine aU (fun c=>?_) fun n=>?_
  ·have c:j<vs.length:=by have:(j:Int)<(s.len:Int):=c;omega
   obtain⟨a,A,_,f⟩:=(x.upd o fun _ h=>h.elim).at (au c)
   have g:=((B.upd o).at c (d▸c));have e:=zl ls (d▸c);have k:=congrArg fj e;rw[ae]at k;have z:=DL ls (j+1);refine Join.plain ⟨by simp only;omega,a,A,_,f 0 _ rfl,_,g.srow,?_⟩;refine AppP.own (ys:=ls[j]) p g.len rfl (qW _) rfl (by omega) (by omega) o.size fun S h2 C y=>?_
   simp only;rw[dg c (by omega)];exact q (j+1) _ _ ⟨rfl,c,e▸C,o.trans y fun b J=>.inr J⟩ (by omega)
  ·have G:j=vs.length:=by have:¬(j:Int)<(s.len:Int):=n;omega
   rw[be (by omega)]at p;exact N _ _ p o
def Ac(l:List Pr)(p:Pr):List Pr:=l.take (pos l p.1)++p::l.drop (if di l p.1 then pos l p.1+1 else pos l p.1)
theorem Cu{l:List Pr}(g:dJ l){k:ByteArray}(c:di l k=true):∃h:pos l k<l.length,l[pos l k].1=k:=by
 unfold di at c;obtain⟨p,i,e⟩:=bF.1 c;have e:=of_decide_eq_true e;obtain⟨q,d,rfl⟩:=List.mem_iff_getElem.1 i;have:pos l k=q:=FK (by omega) (fun j f a=>by rw[←e];exact dd.1 g j q f d a) fun h=>by rw[←e];exact dD _
 subst this;exact⟨d,e⟩
theorem Fy{h:ac}{s:SliceV}{l:List Pr}(e:Sl jq 2 No h s l){i j m:Nat}(f:i≤j)(a:j≤l.length)(d:j≤m)(c:Nat):Sl jq 2 No h ⟨aF s.a i m 2,j-i,c⟩ ((l.drop i).take (j-i)):=Sl.sub e f a d
theorem Cy{h:ac}{s:SliceV}{l:List Pr}(n:Sl jq 2 No h s l)(hc:s.len≤s.cap)(o:dJ l)(N:l.length≤1000000000)(p:Pr)
  {K:SliceV→ac→Prop}(L:∀s' h',OwnS jq 2 ah (fun b=>h.size≤b) h' s' (Ac l p)→Upd No h h'→K s' h'):HC PG sr [.slice s.a s.len s.cap,.agg #[.string p.1,.string p.2]] [.c .slice] K h:=by
 refine Dd s p ?_;unfold yg aB wY wE vX;have c:=n.len;have k1:=Upd.hnew No h [.string p.1,.string p.2] ah;have b1:=bh h [.string p.1,.string p.2] ah;refine aR ?_;simp only[bS h];generalize hnew h [.string p.1,.string p.2] ah=h1 at k1 b1;refine⟨p.1,by rw[bp,aE b1];rfl,DN (n.upd k1 fun _ h=>h.elim) o N p.1 fun O d=>?_⟩
 have C:=Ir l p.1;have a:=k1.tr d;refine⟨by simp only;omega,?_⟩;let q:=if di l p.1 then pos l p.1+1 else pos l p.1
 have E:q≤l.length:=by
  show(if di l p.1 then pos l p.1+1 else pos l p.1)≤l.length
  split
  ·rename_i ht;obtain⟨h,_⟩:=Cu o ht;omega
  ·exact C
 refine Join.intro (fun t h'=>h'=O∧t=⟨aF s.a q s.cap 2,s.len-q,s.cap-q⟩) (fun R A=>?_) ?_
 ·refine CondP.intro (fun e=>?_) fun e=>A _ _ ⟨rfl,?_⟩
  ·have e:di l p.1=true:=e
   obtain⟨I,_⟩:=Cu o e;have F:IntKind.wrap .i64 ((pos l p.1:Int)+1)=((pos l p.1+1:Nat):Int):=by rw[pL (by omega)];omega
   simp only;rw[F];refine⟨by omega,A _ _ ⟨rfl,?_⟩⟩;have:q=pos l p.1+1:=by show(if di l p.1 then _ else _)=_;rw[if_pos e]
   rw[this];rfl
  ·have e:di l p.1=false:=e
   have:q=pos l p.1:=by show(if di l p.1 then _ else _)=_;rw[if_neg (by rw[e];decide)]
   rw[this];rfl
 ·rintro t h' ⟨rfl,rfl⟩
  have b2:=d.get0 b1;refine⟨by simp only;omega,p.1,by rw[bp,aE b2];rfl,p.2,by rw[bp,aE b2];rfl,?_⟩
  have z:=Upd.hnew No h' [.string p.1,.string p.2] ah;have b3:=bh h' [.string p.1,.string p.2] ah;refine aR ?_;simp only[bS h'];generalize hnew h' [.string p.1,.string p.2] ah=h3 at z b3;refine aR ?_;have g:=(n.upd a fun _ h=>h.elim).upd z fun _ h=>h.elim
  have k:=Upd.hnew No h3 [.slice (aF s.a 0 s.cap 2) ((pos l p.1:Int).toNat-0) (s.cap-0),.slice (some ⟨h'.size,0,none⟩) 1 1,.slice (aF s.a q s.cap 2) (s.len-q) (s.cap-q)] dQ;have G:=bh h3 [.slice (aF s.a 0 s.cap 2) ((pos l p.1:Int).toNat-0) (s.cap-0),.slice (some ⟨h'.size,0,none⟩) 1 1,.slice (aF s.a q s.cap 2) (s.len-q) (s.cap-q)] dQ;have B:=Fy g (i:=0) (j:=pos l p.1) (m:=s.cap) (bB _) C (by omega) (s.cap-0)
  have P:Sl jq 2 No h3 ⟨some ⟨h'.size,0,none⟩,1,1⟩ [p]:=⟨rfl,ip,fun _=>⟨_,rfl,fun h=>h.elim,nu b3 fun i v u=>by simpa using u⟩⟩
  have w:=Fy g (i:=q) (j:=l.length) (m:=s.cap) E (ar _) (by omega) (s.cap-q);rw[←c]at w;rw[cK]at B;rw[be (by rw[aH];omega)]at w;have H:Ac l p= [l.take (pos l p.1-0),[p],l.drop q].flatten:=by simp[Ac,q]
  refine EF (s:=⟨some (aZ h3),3,3⟩) (vs:= [⟨aF s.a 0 s.cap 2,(pos l p.1:Int).toNat-0,s.cap-0⟩,⟨some ⟨h'.size,0,none⟩,1,1⟩,⟨aF s.a q s.cap 2,s.len-q,s.cap-q⟩]) (ls:= [l.take (pos l p.1-0),[p],l.drop q])
   ⟨rfl,fun x=>⟨rfl,Nat.one_pos⟩,fun _=>⟨_,rfl,fun h=>h.elim,nu G fun i v u=>by simpa[slF]using u⟩⟩ ⟨B.upd k fun _ h=>h.elim,P.upd k fun _ h=>h.elim,w.upd k fun _ h=>h.elim,trivial⟩ ?_ (by simp) fun S Q f y=>?_
  ·simp only[fY,List.flatten_nil,ae,aY,aH,List.length_singleton,List.length_nil];omega
  ·rw[←H]at f
   have D:=((a.tr z).tr k);exact L _ _ (f.more fun b J=>Nat.le_trans D.size J) (D.tr y)
end Go.Proofs
