/- A part of the proof that the named laws of this program answer true, whatever the input. -/
import Derived.Test.YtakmnggbneeicaaGreatTreeF0
import Derived.Test.YtakmnggbneeicaaGreatTreeF1
import Derived.Test.YtakmnggbneeicaaGreatTreeF2
import Derived.Test.YtakmnggbneeicaaGreatTreeF3
import Derived.Test.YtakmnggbneeicaaGreatLaw0
import Derived.Test.YtakmnggbneeicaaGreatLift3
import Derived.Lib.Overlaps
import Derived.Sort.Walk0
open BitVec renaming ofInt→aA
open ByteArray renaming size_extract→jV
open Go.IntKind renaming wrap→ac,bits→ak
open Go.Op renaming bytesLess→bI
open Int renaming fdiv→eS,toNat_natCast→bf
open List renaming flatMap_cons→aU,take_length→bP,length_take→aQ,length_drop→aX,flatMap_append→co,drop_zero→cE,append_assoc→aE,take_append_of_le_length→ee,take_of_length_le→aS,length_append→ae,drop_left→gv,take_left→gt,size_toArray→cP,drop_eq_getElem_cons→fL,length_eq_zero_iff→aG,drop_left'→cA,take_left'→cK,drop_drop→cL,drop_append_of_le_length→eo,getElem_cons_zero→dH,getElem?_eq_getElem→af
open Nat renaming zero_add→aO,sub_self→gY,le_refl→ai,lt_or_ge→cr,min_eq_left→bZ,sub_zero→dG,min→dh,add_one_mul→fC,one_mul→qk,le_mul_of_pos_left→oK,min_eq_right→mo,zero_mul→vT
namespace Go.Proofs
open Go.Lift
theorem M0(n:Int):0≤ac .u64 n∧ac .u64 n<18446744073709551616:=by rw[IntKind.wrap_u64];omega
theorem df{x:Int}(h: -4611686018427387904≤x∧x≤4611686018427387904):ac .i64 x=x:=Go.IntWalk.i64_in _ (by omega)
theorem cp{i n:Nat}(h:i<n)(a:n≤4611686018427387904):ac .i64 ((i:Int)+1)=((i+1:Nat):Int):=by rw[df (by omega)];omega
theorem zA{h:ad}{b i:Nat}{c:Array Value}{t:TypeId}{v:Value}{k:ad→Prop}(hb:h[b]? =some (.cells c t (0,0)))
  (a:∀h',h'[b]? =some (.cells (c.setIfInBounds i v) t (0,0))→Upd (· =b) h h'→k h'):At (hset h ⟨b,i,none⟩ v) k:=by
 refine a _ ?_ (Upd.hset _ _ rfl);rw[ju hb,dE hb]
def TM(a b:Int):Int:=ac .u64 (aA (ak .u64) a&&&aA (ak .u64) b).toNat
def fx(a b:Int):Int:=ac .u64 (aA (ak .u64) a^^^aA (ak .u64) b).toNat
def Su(a b:Int):Int:=ac .u64 (aA (ak .u64) a|||aA (ak .u64) b).toNat
def Nk(x n:Int):Int:=
 Su (ac .u64 (x*2^(min (TM (ac .u64 n) 63).toNat (ak .u64)))) (eS x (2^(min (ac .u64 (64-TM (ac .u64 n) 63)).toNat (ak .u64))))
theorem BQ{x n:Int}{h:ad}{K:Int→ad→Prop}(a:K (Nk x n) h):sO 278 [.int .u64 x,.int .i64 n] K h:=by
 refine cW (mS x n) .nil Tryz.func278 Tryz.call278 ?_;dsimp only[mS,Gd];exact⟨(M0 _).1,(M0 _).1,a⟩
abbrev Q4:=Int×Int×Int×Int
def q4(s:Q4):Array Value:= #[.int .u64 s.1,.int .u64 s.2.1,.int .u64 s.2.2.1,.int .u64 s.2.2.2]
def Vq(a b:Int):Int:=ac .u64 (a+b)
def T7(s:Q4):Q4:=(Vq s.1 s.2.1,s.2)
def UD(s:Q4):Q4:=(s.1,fx (Nk s.2.1 13) s.1,s.2.2)
def VF(s:Q4):Q4:=(Nk s.1 32,s.2)
def Wa(s:Q4):Q4:=(s.1,s.2.1,Vq s.2.2.1 s.2.2.2,s.2.2.2)
def WU(s:Q4):Q4:=(s.1,s.2.1,s.2.2.1,fx (Nk s.2.2.2 16) s.2.2.1)
def WT(s:Q4):Q4:=(Vq s.1 s.2.2.2,s.2)
def X7(s:Q4):Q4:=(s.1,s.2.1,s.2.2.1,fx (Nk s.2.2.2 21) s.1)
def Yo(s:Q4):Q4:=(s.1,s.2.1,Vq s.2.2.1 s.2.1,s.2.2.2)
def Yn(s:Q4):Q4:=(s.1,fx (Nk s.2.1 17) s.2.2.1,s.2.2)
def WS(s:Q4):Q4:=(s.1,s.2.1,Nk s.2.2.1 32,s.2.2.2)
def Nj(s:Q4):Q4:=WS (Yn (Yo (X7 (WT (WU (Wa (VF (UD (T7 s)))))))))
def od:Nat→Q4→Q4
 |0,s=>s
 |n+1,s=>od n (Nj s)
theorem pf{h:ad}{b i:Nat}{t:TypeId}{s s':Q4}{v:Value}{k:ad→Prop}(hb:h[b]? =some (.cells (q4 s) t (0,0))) (e:(q4 s).setIfInBounds i v=q4 s')
  (c:∀h',h'[b]? =some (.cells (q4 s') t (0,0))→Upd (· =b) h h'→k h'):At (hset h ⟨b,i,none⟩ v) k:=
 zA hb fun h' a d=>c h' (e▸a) d
theorem HB{n:Nat}(Y:n≤100){h:ad}{b:Nat}{t:TypeId}{s:Q4}(hb:h[b]? =some (.cells (q4 s) t (0,0))) {K:Unit→ad→Prop}
  (N:∀h',h'[b]? =some (.cells (q4 (od n s)) t (0,0))→Upd (· =b) h h'→K () h'):dd 237 [gS b,.int .i64 n] K h:=by
 refine zI _ _ ?_;dsimp only[sh,cB,fQ,cV,vr,cH,zE,Ko,Mr,Oo,TU];refine LoopP.ghost (fun(g:Nat×Q4) (L:Int) h'=>L=(g.1:Int)∧g.1≤n∧h'[b]? =some (.cells (q4 g.2) t (0,0))∧Upd (· =b) h h'∧od (n-g.1) g.2=od n s) (fun g=>n-g.1) (0,s) ⟨rfl,Nat.zero_le _,hb,Upd.refl _ _,rfl⟩ ?_
 rintro I ⟨i,d⟩ L h' ⟨ht,hi,a,O,x⟩ S;(try simp only at ht hi a x)
 subst ht;refine ao (fun u=>?_) fun P=>?_
 ·have u:i<n:=by omega
  have c:∀{h:ad} {s:Q4} {i:Nat},h[b]? =some (.cells (q4 s) t (0,0))→aK h ⟨b,0+i,none⟩=(q4 s)[i]?:=fun hb=>by rw[aO];exact bd hb
  have w:∀{h:ad} {s:Q4} {i:Nat},h[b]? =some (.cells (q4 s) t (0,0))→i<4→Wr h ⟨b,0+i,none⟩:=fun hb hi=>by rw[aO];exact eC hb hi
  simp only[show((0:Int)).toNat*1=0 from rfl,show((1:Int)).toNat*1=1 from rfl,show((2:Int)).toNat*1=2 from rfl,show((3:Int)).toNat*1=3 from rfl]
  refine⟨_,rfl,by decide,_,c (i:=0) a,_,rfl,by decide,_,c (i:=1) a,_,rfl,by decide,w (i:=0) a (by decide),pf (s':=T7 d) a rfl fun W k E=>?_⟩
  refine⟨_,rfl,by decide,_,c (i:=1) k,_,rfl,by decide,_,c (i:=0) k,_,rfl,BQ ⟨c (i:=0) k,by decide,w (i:=1) k (by decide),pf (s':=UD (T7 d)) k rfl fun V v J=>?_⟩⟩
  refine⟨_,rfl,by decide,_,c (i:=0) v,_,rfl,BQ ⟨by decide,w (i:=0) v (by decide),pf (s':=VF (UD (T7 d))) v rfl fun U q D=>?_⟩⟩
  refine⟨_,rfl,by decide,_,c (i:=2) q,_,rfl,by decide,_,c (i:=3) q,_,rfl,by decide,w (i:=2) q (by decide),pf (s':=Wa (VF (UD (T7 d)))) q rfl fun h5 m C=>?_⟩
  refine⟨_,rfl,by decide,_,c (i:=3) m,_,rfl,by decide,_,c (i:=2) m,_,rfl,BQ ⟨c (i:=2) m,by decide,w (i:=3) m (by decide),pf (s':=WU (Wa (VF (UD (T7 d))))) m rfl fun h6 p B=>?_⟩⟩
  refine⟨_,rfl,by decide,_,c (i:=0) p,_,rfl,by decide,_,c (i:=3) p,_,rfl,by decide,w (i:=0) p (by decide),pf (s':=WT (WU (Wa (VF (UD (T7 d)))))) p rfl fun X j G=>?_⟩
  refine⟨_,rfl,by decide,_,c (i:=3) j,_,rfl,by decide,_,c (i:=0) j,_,rfl,BQ ⟨c (i:=0) j,by decide,w (i:=3) j (by decide),pf (s':=X7 (WT (WU (Wa (VF (UD (T7 d))))))) j rfl fun Z o H=>?_⟩⟩
  refine⟨_,rfl,by decide,_,c (i:=2) o,_,rfl,by decide,_,c (i:=1) o,_,rfl,by decide,w (i:=2) o (by decide),pf (s':=Yo (X7 (WT (WU (Wa (VF (UD (T7 d)))))))) o rfl fun T f F=>?_⟩
  refine⟨_,rfl,by decide,_,c (i:=1) f,_,rfl,by decide,_,c (i:=2) f,_,rfl,BQ ⟨c (i:=2) f,by decide,w (i:=1) f (by decide),pf (s':=Yn (Yo (X7 (WT (WU (Wa (VF (UD (T7 d))))))))) f rfl fun Q e z=>?_⟩⟩
  refine⟨_,rfl,by decide,_,c (i:=2) e,_,rfl,BQ ⟨by decide,w (i:=2) e (by decide),pf (s':=Nj d) e rfl fun R A y=>?_⟩⟩
  rw[cp u (by omega)];refine S (i+1,Nj d) _ _ ⟨rfl,u,A,O.tr (E.tr (J.tr (D.tr (C.tr (B.tr (G.tr (H.tr (F.tr (z.tr y))))))))),?_⟩ (by(try simp only);omega);(try simp only)
  rw[←x,show n-i=(n-(i+1))+1 by omega];rfl
 ·obtain rfl:i=n:=by omega
  rw[gY]at x;have x:d=od i s:=x;rw[←x]at N;exact N _ a O
end Go.Proofs
namespace Go.Proofs
open Go.Lift
def Vm(s:ByteArray)(i:Nat):Int:=match s[i]? with|some b=>(b.toNat:Int)|none=>0
def X6(b:Int)(n:Int):Int:=ac .u64 ((ac .u64 b)*2^(min n.toNat (ak .u64)))
def wj(s:ByteArray):Nat→Int→Int
 |0,t=>t
 |k+1,t=>wj s k (Su t (if k=0 then ac .u64 (Vm s 0)else X6 (Vm s k) ((8*k:Nat):Int)))
def Cz(s:ByteArray):Int:=wj s s.size 0
theorem p6{s:ByteArray}{i:Nat}(h:i<s.size):∃b,s[i]? =some b∧Vm s i=(b.toNat:Int):=⟨s[i],getElem?_pos s i h,by simp[Vm,getElem?_pos s i h]⟩
theorem OO{s:ByteArray}(L:s.size≤8){h:ad}{K:Int→ad→Prop}(c:K (Cz s) h):sO 236 [.string s] K h:=by
 refine cW (Gr s) Oy Tryz.func236 Tryz.call236 ?_;dsimp only[Gr,Gd,AW];refine Join.intro (fun t h'=>h'=h∧1≤s.size∧wj s 1 t=wj s s.size 0) (fun z k=>?_) ?_
 ·refine Join.intro (fun t h'=>h'=h∧2≤s.size∧wj s 2 t=wj s s.size 0) (fun R2 d=>?_) ?_
  ·refine Join.intro (fun t h'=>h'=h∧3≤s.size∧wj s 3 t=wj s s.size 0) (fun H m=>?_) ?_
   ·refine Join.intro (fun t h'=>h'=h∧4≤s.size∧wj s 4 t=wj s s.size 0) (fun F g=>?_) ?_
    ·refine Join.intro (fun t h'=>h'=h∧5≤s.size∧wj s 5 t=wj s s.size 0) (fun N n=>?_) ?_
     ·refine Join.intro (fun t h'=>h'=h∧6≤s.size∧wj s 6 t=wj s s.size 0) (fun E j=>?_) ?_
      ·refine Join.intro (fun t h'=>h'=h∧7≤s.size∧wj s 7 t=wj s s.size 0) (fun D f=>?_) ?_
       ·refine CondP.intro (fun e=>?_) fun o=>?_
        ·have e:s.size=8:=by have:=of_decide_eq_true (by simpa using e:decide ((s.size:Int)=8)=true);omega
         obtain⟨b,hb,hv⟩:=p6 (s:=s) (i:=7) (by omega);refine⟨b,by decide,hb,by decide,f _ _ ⟨rfl,by omega,?_⟩⟩
         rw[e,←hv];rfl
        refine CondP.intro (fun e=>?_) fun x=>?_
        ·have e:s.size=7:=by have:=of_decide_eq_true (by simpa using e:decide ((s.size:Int)=7)=true);omega
         exact f _ _ ⟨rfl,by omega,by rw[e]⟩
        refine CondP.intro (fun e=>?_) fun v=>?_
        ·have e:s.size=6:=by have:=of_decide_eq_true (by simpa using e:decide ((s.size:Int)=6)=true);omega
         exact j _ _ ⟨rfl,by omega,by rw[e]⟩
        refine CondP.intro (fun e=>?_) fun y=>?_
        ·have e:s.size=5:=by have:=of_decide_eq_true (by simpa using e:decide ((s.size:Int)=5)=true);omega
         exact n _ _ ⟨rfl,by omega,by rw[e]⟩
        refine CondP.intro (fun e=>?_) fun p=>?_
        ·have e:s.size=4:=by have:=of_decide_eq_true (by simpa using e:decide ((s.size:Int)=4)=true);omega
         exact g _ _ ⟨rfl,by omega,by rw[e]⟩
        refine CondP.intro (fun e=>?_) fun q=>?_
        ·have e:s.size=3:=by have:=of_decide_eq_true (by simpa using e:decide ((s.size:Int)=3)=true);omega
         exact m _ _ ⟨rfl,by omega,by rw[e]⟩
        refine CondP.intro (fun e=>?_) fun u=>?_
        ·have e:s.size=2:=by have:=of_decide_eq_true (by simpa using e:decide ((s.size:Int)=2)=true);omega
         exact d _ _ ⟨rfl,by omega,by rw[e]⟩
        refine CondP.intro (fun e=>?_) fun w=>?_
        ·have e:s.size=1:=by have:=of_decide_eq_true (by simpa using e:decide ((s.size:Int)=1)=true);omega
         exact k _ _ ⟨rfl,by omega,by rw[e]⟩
        have e:s.size=0:=by
         have B:¬(s.size:Int)=1:=by simpa using w
         have A:¬(s.size:Int)=2:=by simpa using u
         have C:¬(s.size:Int)=3:=by simpa using q
         have q4:¬(s.size:Int)=4:=by simpa using p
         have G:¬(s.size:Int)=5:=by simpa using y
         have I:¬(s.size:Int)=6:=by simpa using v
         have J:¬(s.size:Int)=7:=by simpa using x
         have O:¬(s.size:Int)=8:=by simpa using o
         omega
        unfold Cz at c;rw[e]at c;exact c
       ·rintro t _ ⟨rfl,a,ht⟩
        obtain⟨b,hb,hv⟩:=p6 (s:=s) (i:=6) (by omega);refine⟨b,by decide,hb,by decide,j _ _ ⟨rfl,by omega,?_⟩⟩
        rw[←ht,←hv];rfl
      ·rintro t _ ⟨rfl,a,ht⟩
       obtain⟨b,hb,hv⟩:=p6 (s:=s) (i:=5) (by omega);refine⟨b,by decide,hb,by decide,n _ _ ⟨rfl,by omega,?_⟩⟩
       rw[←ht,←hv];rfl
     ·rintro t _ ⟨rfl,a,ht⟩
      obtain⟨b,hb,hv⟩:=p6 (s:=s) (i:=4) (by omega);refine⟨b,by decide,hb,by decide,g _ _ ⟨rfl,by omega,?_⟩⟩
      rw[←ht,←hv];rfl
    ·rintro t _ ⟨rfl,a,ht⟩
     obtain⟨b,hb,hv⟩:=p6 (s:=s) (i:=3) (by omega);refine⟨b,by decide,hb,by decide,m _ _ ⟨rfl,by omega,?_⟩⟩
     rw[←ht,←hv];rfl
   ·rintro t _ ⟨rfl,a,ht⟩
    obtain⟨b,hb,hv⟩:=p6 (s:=s) (i:=2) (by omega);refine⟨b,by decide,hb,by decide,d _ _ ⟨rfl,by omega,?_⟩⟩
    rw[←ht,←hv];rfl
  ·rintro t _ ⟨rfl,a,ht⟩
   obtain⟨b,hb,hv⟩:=p6 (s:=s) (i:=1) (by omega);refine⟨b,by decide,hb,by decide,k _ _ ⟨rfl,by omega,?_⟩⟩
   rw[←ht,←hv];rfl
 ·rintro t _ ⟨rfl,a,ht⟩
  obtain⟨b,hb,hv⟩:=p6 (s:=s) (i:=0) (by omega);refine⟨b,by decide,hb,?_⟩
  unfold Cz at c;rw[←ht]at c;rw[←hv];exact c
end Go.Proofs
namespace Go.Proofs
open Go.Lift
def ES(m:Int)(s:Q4):Q4:=
 let r:=od 2 (s.1,s.2.1,s.2.2.1,fx s.2.2.2 m)
 (fx r.1 m,r.2)
theorem OZ{m:Int}{h:ad}{b:Nat}{t:TypeId}{s:Q4}(hb:h[b]? =some (.cells (q4 s) t (0,0))) {K:Unit→ad→Prop}
  (d:∀h',h'[b]? =some (.cells (q4 (ES m s)) t (0,0))→Upd (· =b) h h'→K () h'):dd 235 [gS b,.int .u64 m] K h:=by
 refine Cm _ _ ?_;dsimp only[vd,fQ,cV,jK,cH,zE,Mr,cB,Oo];have c:∀{h:ad} {s:Q4} {i:Nat},h[b]? =some (.cells (q4 s) t (0,0))→aK h ⟨b,0+i,none⟩=(q4 s)[i]?:=fun hb=>by rw[aO];exact bd hb
 have w:∀{h:ad} {s:Q4} {i:Nat},h[b]? =some (.cells (q4 s) t (0,0))→i<4→Wr h ⟨b,0+i,none⟩:=fun hb hi=>by rw[aO];exact eC hb hi
 simp only[show((0:Int)).toNat*1=0 from rfl,show((3:Int)).toNat*1=3 from rfl]
 refine⟨_,rfl,by decide,_,c (i:=3) hb,_,rfl,by decide,w (i:=3) hb (by decide),pf (s':=(s.1,s.2.1,s.2.2.1,fx s.2.2.2 m)) hb rfl fun u k g=>?_⟩
 refine HB (n:=2) (by omega) k fun p a f=>?_
 have o:ES m s=(fx (od 2 (s.1,s.2.1,s.2.2.1,fx s.2.2.2 m)).1 m,(od 2 (s.1,s.2.1,s.2.2.1,fx s.2.2.2 m)).2):=by unfold ES;rfl
 rw[o]at d;generalize od 2 (s.1,s.2.1,s.2.2.1,fx s.2.2.2 m)=r at a d;refine⟨_,rfl,by decide,_,c (i:=0) a,_,rfl,by decide,w (i:=0) a (by decide),pf (s':=(fx r.1 m,r.2)) a rfl fun q j e=>?_⟩
 exact d _ j (g.tr (f.tr e))
def EU:Nat→ByteArray→Q4→ByteArray×Q4
 |0,s,q=>(s,q)
 |n+1,s,q=>if 8≤s.size then EU n (s.extract 8 s.size) (ES (Cz (s.extract 0 8)) q)else(s,q)
def XO(r:Q4):Int:=fx (fx (fx r.1 r.2.1) r.2.2.1) r.2.2.2
def XN(q:Q4):Int:=XO (od 4 (q.1,q.2.1,fx q.2.2.1 255,q.2.2.2))
def Yj(n:Nat)(g:ByteArray×Q4):Int:=XN (ES (Su (Cz g.1) (X6 (n:Int) 56)) g.2)
def Uy(k0 k1:Int)(s:ByteArray):Int:=
 Yj s.size (EU s.size s (fx k0 8317987319222330741,fx k1 7237128888997146477,fx k0 7816392313619706465,fx k1 8387220255154660723))
theorem Vb{a:ad}{b:Nat}{t:TypeId}{r:Q4}(hb:a[b]? =some (.cells (q4 r) t (0,0))) {K:Int→Prop} (f:K (XO r)):
  (((0:Int)≤(0:Int)∧(0:Int)<((4:Nat):Int))∧
   ∃v30:Int,aK a (adr ⟨b,0,none⟩ ((0:Int).toNat*1))=some (.int .u64 v30)∧
   (((0:Int)≤(1:Int)∧(1:Int)<((4:Nat):Int))∧
    ∃v31:Int,aK a (adr ⟨b,0,none⟩ ((1:Int).toNat*1))=some (.int .u64 v31)∧
    Bd (ac .u64 (aA (ak .u64) v30^^^aA (ak .u64) v31).toNat:Int) (fun n32=>
     (((0:Int)≤(2:Int)∧(2:Int)<((4:Nat):Int))∧
      ∃v33:Int,aK a (adr ⟨b,0,none⟩ ((2:Int).toNat*1))=some (.int .u64 v33)∧
      Bd (ac .u64 (aA (ak .u64) n32^^^aA (ak .u64) v33).toNat:Int) (fun d=>
       (((0:Int)≤(3:Int)∧(3:Int)<((4:Nat):Int))∧
        ∃v35:Int,aK a (adr ⟨b,0,none⟩ ((3:Int).toNat*1))=some (.int .u64 v35)∧
        Bd (ac .u64 (aA (ak .u64) d^^^aA (ak .u64) v35).toNat:Int) (fun e=>
         K e))))))):=by
 have c:∀{i:Nat},aK a ⟨b,0+i,none⟩=(q4 r)[i]?:=by intro i;rw[aO];exact bd hb
 exact⟨by decide,_,c (i:=0),by decide,_,c (i:=1),by decide,_,c (i:=2),by decide,_,c (i:=3),f⟩
theorem Va{a:ad}{b:Nat}{t:TypeId}{q:Q4}(hb:a[b]? =some (.cells (q4 q) t (0,0))) {K:Unit→ad→Prop}
  (m:∀h',h'[b]? =some (.cells (q4 (od 4 (q.1,q.2.1,fx q.2.2.1 255,q.2.2.2))) t (0,0))→Upd (· =b) a h'→K () h'):
  (((0:Int)≤(2:Int)∧(2:Int)<((4:Nat):Int))∧
   ∃v25:Int,aK a (adr ⟨b,0,none⟩ ((2:Int).toNat*1))=some (.int .u64 v25)∧
   Bd (ac .u64 (aA (ak .u64) v25^^^aA (ak .u64) 255).toNat:Int) (fun d=>
    (((0:Int)≤(2:Int)∧(2:Int)<((4:Nat):Int))∧
     (Wr a (adr ⟨b,0,none⟩ ((2:Int).toNat*1))∧
      At (hset a (adr ⟨b,0,none⟩ ((2:Int).toNat*1)) (.int .u64 d)) (fun j=>
       dd 237 [gS b,.int .i64 4] K j))))):=by
 have c:∀{i:Nat},aK a ⟨b,0+i,none⟩=(q4 q)[i]?:=by intro i;rw[aO];exact bd hb
 refine⟨by decide,_,c (i:=2),by decide,by rw[show((2:Int)).toNat*1=2 from rfl,ce];exact eC hb (by simp[q4]),?_⟩
 refine pf (s':=(q.1,q.2.1,fx q.2.2.1 255,q.2.2.2)) hb rfl fun p e g=>?_
 exact HB (n:=4) (by omega) e fun o k f=>m o k (g.tr f)
theorem bL{h:ad}{k:ad→Prop}(a:k h):At h k:=a
theorem V5{k0 k1:Int}{s:ByteArray}{h:ad}{K:Int→ad→Prop}(A:∀h',Upd No h h'→K (Uy k0 k1 s) h'):sO 168 [.agg #[.int .u64 k0,.int .u64 k1],.string s] K h:=by
 refine cW (Iy (k0,k1) s) Rb Tryz.func168 Tryz.call168 ?_;dsimp only[Iy,cB,fQ,aj,nv,cV,jK,Xh,WW,W0,Um,zE,Gd,Ko];have p:=Upd.hnew No h [.int .u64 k0,.int .u64 k1] 24;have b1:=bU h [.int .u64 k0,.int .u64 k1] 24;have G:=dC h [.int .u64 k0,.int .u64 k1] 24;refine bL ?_;simp only[cz h];generalize hnew h [.int .u64 k0,.int .u64 k1] 24=h1 at p b1 G
 refine⟨k0,by rw[ce,bd b1];rfl,k1,by rw[ce,bd b1];rfl,k0,by rw[ce,bd b1];rfl,k1,by rw[ce,bd b1];rfl,?_⟩
 have J:=Upd.hnew No h1 [.int .u64 0,.int .u64 0,.int .u64 0,.int .u64 0] 333;have b2:=bU h1 [.int .u64 0,.int .u64 0,.int .u64 0,.int .u64 0] 333;simp only[cz h1];simp only[Bd];refine bL ?_;refine⟨.inr ⟨_,rfl,fun j E=>by rw[ce];exact eC b2 (by simp at E⊢;omega)⟩,?_⟩
 refine bL ?_;rw[gC _ _ 0 0 _ b2 (by simp)];have b3:=dE (o:=.cells (q4 (fx k0 8317987319222330741,fx k1 7237128888997146477,fx k0 7816392313619706465,fx k1 8387220255154660723)) 333 (0,0)) b2;have C:Upd No h _:=p.tr (J.trans (M':=(· =h1.size)) (Upd.set (hnew h1 [.int .u64 0,.int .u64 0,.int .u64 0,.int .u64 0] 333) (.cells (q4 (fx k0 8317987319222330741,fx k1 7237128888997146477,fx k0 7816392313619706465,fx k1 8387220255154660723)) 333 (0,0)) rfl) fun b hb=>.inr (Nat.le_of_eq hb.symm))
 refine LoopP.ghost (fun(g:Nat×Q4) (a:ByteArray) h'=>a.size≤g.1∧h'[h1.size]? =some (.cells (q4 g.2) 333 (0,0))∧Upd No h h'∧EU g.1 a g.2=EU s.size s (fx k0 8317987319222330741,fx k1 7237128888997146477,fx k0 7816392313619706465,fx k1 8387220255154660723)) (fun g=>g.1) (s.size,_)
  ⟨ai _,b3,C,rfl⟩ ?_
 rintro I ⟨n,q⟩ a h' ⟨H,hb,B,t⟩ L;(try simp only at H hb t)
 have e:∀b,b=h1.size→No b∨h.size≤b:=fun b hb=>.inr (by omega)
 refine ao (fun k=>?_) fun u=>?_
 ·have k:8≤a.size:=by omega
  cases n with
  |zero=>omega
  |succ n=>
   refine⟨by omega,OO (by rw[jV];show min 8 _-0≤8;omega) (OZ hb fun F d f=>⟨by omega,?_⟩)⟩
   have D:((8:Int)).toNat=8:=rfl;rw[D]at d⊢;refine L (n,ES (Cz (a.extract 0 8)) q) _ _ ⟨by simp only[jV];omega,d,B.trans f e,?_⟩ (by(try simp only);omega);rw[←t];simp only[EU,if_pos k]
 ·have u:a.size<8:=by omega
  have t:(a,q)=EU s.size s (fx k0 8317987319222330741,fx k1 7237128888997146477,fx k0 7816392313619706465,fx k1 8387220255154660723):=by
   rw[←t];cases n with
   |zero=>rfl
   |succ n=>simp only[EU,if_neg (show ¬8≤a.size by omega)]
  have c:∀{h:ad} {s:Q4} {i:Nat},h[h1.size]? =some (.cells (q4 s) 333 (0,0))→aK h ⟨h1.size,0+i,none⟩=(q4 s)[i]?:=fun hb=>by rw[aO];exact bd hb
  have w:∀{h:ad} {s:Q4} {i:Nat},h[h1.size]? =some (.cells (q4 s) 333 (0,0))→i<4→Wr h ⟨h1.size,0+i,none⟩:=fun hb hi=>by rw[aO];exact eC hb hi
  have x:Uy k0 k1 s=XN (ES (Su (Cz a) (X6 (s.size:Int) 56)) q):=by unfold Uy;rw[←t];rfl
  rw[x]at A;refine OO (by omega) ⟨by decide,OZ (m:=Su (Cz a) (X6 (s.size:Int) 56)) hb fun F d f=>?_⟩
  refine Va d fun z y v=>Vb (K:=fun n=>K n z) y ?_
  exact A z ((B.trans f e).trans v e)
structure Hs where
 k0:Int
 k1:Int
 mask:Int
def iS(h:Hs)(s:ByteArray):Int:=TM (Uy h.k0 h.k1 s) h.mask
theorem AB{x:Hs}{s:ByteArray}{h:ad}{K:Int→ad→Prop}(c:∀h',Upd No h h'→K (iS x s) h'):sO 113 [.agg #[.int .u64 x.k0,.int .u64 x.k1,.int .u64 x.mask],.string s] K h:=by
 refine cW (tK (x.k0,x.k1,x.mask) s) .nil Tryz.func113 Tryz.call113 ?_;unfold tK aj Ei ge W7;have a:=Upd.hnew No h [.int .u64 x.k0,.int .u64 x.k1,.int .u64 x.mask] 26;have b1:=bU h [.int .u64 x.k0,.int .u64 x.k1,.int .u64 x.mask] 26;simp only[At,cz h];generalize hnew h [.int .u64 x.k0,.int .u64 x.k1,.int .u64 x.mask] 26=h1 at a b1;refine⟨x.k0,by rw[ce,ce,bd b1];rfl,x.k1,by rw[ce,ce,bd b1];rfl,x.mask,by rw[ce,bd b1];rfl,?_⟩
 refine V5 fun d b=>⟨by rw[ce,bd (b.get0 b1)];rfl,c _ (a.tr b)⟩
theorem L2(x:Hs)(s:ByteArray):0≤iS x s∧iS x s<18446744073709551616:=M0 _
end Go.Proofs
namespace Go.Proofs
open Go Go.Lift
abbrev dQ(x:ByteArray×ByteArray):List Value:= [.string x.1,.string x.2]
theorem fc(x:ByteArray×ByteArray):(dQ x).length=2∧0<2:=⟨rfl,by omega⟩
theorem vC:∀xs:List (ByteArray×ByteArray),cx (xs.flatMap dQ)=true
 | []=>rfl
 |x::xs=>by rw[aU];exact oo rfl (vC xs)
theorem JC{h:ad}{a b o c d f e:Nat}{i cw:Array Value}{g tb:TypeId}(hv:h[a]? =some (.cells i g (0,0))) (hb:h[b]? =some (.cells cw tb (0,0))) (k:a≠b) (m:cw.size≠0) {K:Bool→ad→Prop} (n:K false h):
  fI 288 [.slice (some ⟨a,0,none⟩) c d,.slice (some ⟨b,o,none⟩) f e] K h:=by
 refine⟨fun w j=>.inr ⟨.bool false,w,?_,Tame.refl w,false,rfl,j▸n⟩⟩
 subst j;rw[rl];have:=Lib.run_overlaps_apart (P:=PG) w 256 4 33 (by kernel_rfl) (cq PG 33) (pY (by kernel_rfl)) ⟨a,0,none⟩ ⟨b,o,none⟩ c d f e k g tb i.size cw.size
  (by simp[World.shape?,hv]) (by simp[World.shape?,hb]) m (by simp[World.frozen?,hv]) (by simp[World.frozen?,hv])
 rw[show([Value.slice (some ⟨a,0,none⟩) c d,Value.slice (some ⟨b,o,none⟩) f e]:List Value).toArray= #[.slice (some ⟨a,0,none⟩) c d,.slice (some ⟨b,o,none⟩) f e]from rfl,this]
 rfl
set_option maxRecDepth 4000 in
theorem NV{M:Nat→Prop}{h:ad}{s:SliceV}{xs:List (ByteArray×ByteArray)}(S:OwnS dQ 2 33 M h s xs){k:Nat}(Y:k≤xs.length)(hn:(xs.length+1)*32≤140737488355328){x:ByteArray×ByteArray}{m:Nat}(hv:h[m]? =some (.cells (dQ x).toArray 33 (0,0)))
  (hvM:¬M m) (Q:∀b,h.size≤b→M b) {K:SliceV→ad→Prop} (hK:∀s' h',OwnS dQ 2 33 M h' s' (xs.take k++x::xs.drop k)→Upd M h h'→K s' h'):
  eP 245 [.slice s.a s.len s.cap,.int .i64 k,.slice (some ⟨m,0,none⟩) 1 1] K h:=by
 refine cW (gD s k ⟨some ⟨m,0,none⟩,1,1⟩) md Tryz.func245 Tryz.call245 ?_;dsimp only[gD,mY,l8,mN,Kq,yi,D2,Q3];have n:=S.len;have hcap:=S.cap;have L:SRow h (some ⟨m,0,none⟩) (1*2) (dQ x):=⟨rfl,.inr ⟨_,rfl,qU hv fun i v hi=>by simpa using hi⟩⟩
 refine⟨by omega,ag.2 ?_⟩;refine CondP.intro (fun e=>?_) fun e=>?_
 ·have e:k=xs.length:=by have:=of_decide_eq_true (by simpa using e:decide ((k:Int)=(s.len:Int))=true);omega
  subst e;refine⟨_,L,AppP.own (ys:= [x]) S rfl (by simp) rfl rfl (by omega) (by simp;omega) (Q _ (ai _)) fun s' h' ho hu=>hK s' h' ?_ hu⟩
  rw[bP,List.drop_length];exact ho
 have hlt:k<xs.length:=by
  rcases cr k xs.length with h|h
  ·exact h
  ·have:((k:Int)==(s.len:Int))=true:=by rw[beq_iff_eq];omega
   rw[this]at e;cases e
 rcases S.blk with h0|⟨b,d,ha,hb,hc,hr⟩
 ·omega
 have g:((xs.take k).flatMap dQ).length=k*2:=by rw[iV fc,aQ,bZ Y]
 have o:((xs.drop k).flatMap dQ).length=(xs.length-k)*2:=by rw[iV fc,aX]
 have F:m≠b:=fun e=>hvM (e▸hb)
 rw[xr (f:=dQ) xs k]at hc;have a:(xs.take k++x::xs.drop k).flatMap dQ=(xs.take k).flatMap dQ++(dQ x++(xs.drop k).flatMap dQ):=by rw[co,aU]
 have j:=vC (xs.drop k);have c:(dQ x).length=2:=rfl;have z:cx (dQ x)=true:=rfl;generalize hAe:(xs.take k).flatMap dQ=A at g hc a;generalize hBe:(xs.drop k).flatMap dQ=B at o hc a j;generalize dQ x=X at L c hv a z;rw[ha];have w1:ac .i64 ((xs.length:Int)+((1:Nat):Int))=((xs.length+1:Nat):Int):=by rw[df (by omega)];omega
 have w2:ac .i64 ((k:Int)+((1:Nat):Int))=((k+1:Nat):Int):=by rw[df (by omega)];omega
 have w3:ac .i64 (((xs.length+1:Nat):Int)-(k:Int))=((xs.length+1-k:Nat):Int):=by rw[df (by omega)];omega
 simp only[w1,w2,w3,bf,n];refine ao (fun hgt=>?_) fun hle=>?_
 ·
  have I:s.cap=xs.length:=by omega
  refine Join.plain ⟨by omega,⟨by omega,by omega,by omega,by omega⟩,fun hin=>?_,fun N=>?_⟩
  ·omega
  ·refine⟨A,_,?_,rfl,by omega,Go.growslice_fits N (by omega),fun C w=>?_⟩
   ·rw[sub_zero]
    exact kr hc (by rw[g];omega) (by simp only[cE,dG];rw[aE,←g,ee (ai _),bP])
   ·simp only[bf]at w⊢
    have T:=Upd.hnew No h (A++cU (xs.length+1-k) [.string (⟨#[]⟩:ByteArray),.string (⟨#[]⟩:ByteArray)]++cU (C-(k-0+(xs.length+1-k))) [.string (⟨#[]⟩:ByteArray),.string (⟨#[]⟩:ByteArray)]) 33;have bn:=bU h (A++cU (xs.length+1-k) [.string (⟨#[]⟩:ByteArray),.string (⟨#[]⟩:ByteArray)]++cU (C-(k-0+(xs.length+1-k))) [.string (⟨#[]⟩:ByteArray),.string (⟨#[]⟩:ByteArray)]) 33;have u:(cU (xs.length+1-k) [.string (⟨#[]⟩:ByteArray),.string (⟨#[]⟩:ByteArray)]).length=(xs.length+1-k)*2:=kV _ _
    have hz2:(cU (C-(k-0+(xs.length+1-k))) [.string (⟨#[]⟩:ByteArray),.string (⟨#[]⟩:ByteArray)]).length=(C-(k-0+(xs.length+1-k)))*2:=kV _ _;have p:k-0+(xs.length+1-k)=xs.length+1:=by omega
    rw[cz];have hsz:h.size≠m:=fun e=>by have:=bw hv;omega
    have E:h.size≠b:=fun e=>by have:=bw hc;omega
    have D:=T.get0 hc;have H:=T.get0 hv;generalize hnew h _ 33=h9 at T bn D H;rw[p]at w hz2⊢;have V:dh 1 (xs.length+1-k)=1:=bZ (by omega);have m2:dh (xs.length-k) (xs.length+1-(k+1))=xs.length-k:=bZ (by omega);rw[V];have U:SRow h9 (some ⟨m,0,none⟩) (1*2) X:=kr H (by rw[c]) (by rw[cE,aS];rw[c];omega);refine⟨by omega,?_⟩
    rw[iM (by omega)];refine j4 U z bn (by simp only[ae,g,u];omega) fun Z O t=>⟨by omega,?_⟩
    simp only[Bd];rw[iM (by omega),iM (by omega),m2];refine⟨by omega,?_⟩;have y:=t.get D (fun e=>E e.symm)
    have br:SRow Z (some ⟨b,0+k*2,none⟩) ((xs.length-k)*2) B:=kr y o (by
     rw[aO,aE,←g,gv,←o,gt])
    refine j4 br j O ?_ fun h16 P G=>?_
    ·simp only[ae,aQ,aX,g,u,c];omega
    ·refine hK _ _ ⟨by simp;omega,fc,w,.inr ⟨h.size,cU (C-(xs.length+1)) [.string (⟨#[]⟩:ByteArray),.string (⟨#[]⟩:ByteArray)],rfl,Q _ (ai _),?_,by rw[kV];rfl⟩⟩ ((T.wide.trans (M':=(· =h.size)) t fun b hb=>.inl (hb▸Q _ (ai _))).trans (M':=(· =h.size)) G fun b hb=>.inl (hb▸Q _ (ai _)))
     rw[P,a];have:=JJ (A:=A) (X:=X) (B:=B) (Z1:=cU (xs.length+1-k) [.string (⟨#[]⟩:ByteArray),.string (⟨#[]⟩:ByteArray)]) (Z2:=cU (C-(xs.length+1)) [.string (⟨#[]⟩:ByteArray),.string (⟨#[]⟩:ByteArray)]) (r:=(xs.length-k)*2) g c (by rw[u,←fC];congr 1;omega);rw[p,←this];simp only[aO,fC]
 ·have I:xs.length+1≤s.cap:=by omega
  refine⟨by omega,?_⟩;simp only[Bd,dG];rw[sub_zero,iM (show s.cap≠k+1 by omega),iM (show s.cap≠k by omega)]
  refine⟨by omega,?_⟩;have hrl:2≤d.length:=by rw[hr];exact oK _ (by omega)
  refine JC hv hc F (by rw[cP,ae];omega) ?_;refine aw.2 ⟨by omega,by omega,?_⟩
  have V:dh 1 (xs.length+1-k)=1:=bZ (by omega);have m2:dh (xs.length+1-k) (xs.length+1-(k+1))=xs.length-k:=by
   rw[show xs.length+1-(k+1)=xs.length-k by omega];exact mo (by omega)
  rw[m2];have br:SRow h (some ⟨b,0+k*2,none⟩) ((xs.length-k)*2) B:=kr hc o (by
   rw[aO,aE,←g,gv,←o,gt])
  refine j4 br j hc (by simp only[ae,g,o];omega) fun h1 W J=>⟨by omega,?_⟩
  rw[V];have xr1:SRow h1 (some ⟨m,0,none⟩) (1*2) X:=kr (J.get hv F) (by rw[c]) (by rw[cE,aS];rw[c];omega);refine j4 xr1 z W (by simp only[ae,aQ,aX,g,o];omega) fun h2 hb2 hu2=>?_
  refine hK _ _ ⟨by simp;omega,fc,I,.inr ⟨b,d.drop 2,rfl,hb,?_,?_⟩⟩ ((J.mono fun _ e=>.inl (e▸hb)).tr (hu2.mono fun _ e=>.inl (e▸hb)))
  ·rw[hb2,a]
   have:=NX (A:=A) (X:=X) (B:=B) (R:=d) (q:=2) (r:=(xs.length-k)*2) g o hrl;rw[←this];simp only[aO,fC]
  ·rw[aX,hr]
   (try simp only)
   rw[n];omega
abbrev qp(x:Option Addr):List Value:= [.pointer x]
theorem qo(x:Option Addr):(qp x).length=1∧0<1:=⟨rfl,by omega⟩
theorem Ek:∀xs:List (Option Addr),cx (xs.flatMap qp)=true
 | []=>rfl
 |x::xs=>by rw[aU];exact oo rfl (Ek xs)
theorem JD{h:ad}{a b o c d f e:Nat}{i cw:Array Value}{g tb:TypeId}(hv:h[a]? =some (.cells i g (0,0))) (hb:h[b]? =some (.cells cw tb (0,0))) (k:a≠b) (m:cw.size≠0) {K:Bool→ad→Prop} (n:K false h):
  fI 290 [.slice (some ⟨a,0,none⟩) c d,.slice (some ⟨b,o,none⟩) f e] K h:=by
 refine⟨fun w j=>.inr ⟨.bool false,w,?_,Tame.refl w,false,rfl,j▸n⟩⟩
 subst j;rw[p7];have:=Lib.run_overlaps_apart (P:=PG) w 258 4 50 (by kernel_rfl) (cq PG 50) (pY (by kernel_rfl)) ⟨a,0,none⟩ ⟨b,o,none⟩ c d f e k g tb i.size cw.size
  (by simp[World.shape?,hv]) (by simp[World.shape?,hb]) m (by simp[World.frozen?,hv]) (by simp[World.frozen?,hv])
 rw[show([Value.slice (some ⟨a,0,none⟩) c d,Value.slice (some ⟨b,o,none⟩) f e]:List Value).toArray= #[.slice (some ⟨a,0,none⟩) c d,.slice (some ⟨b,o,none⟩) f e]from rfl,this]
 rfl
set_option maxRecDepth 4000 in
theorem NW{M:Nat→Prop}{h:ad}{s:SliceV}{xs:List (Option Addr)}(S:OwnS qp 1 50 M h s xs){k:Nat}(Y:k≤xs.length)(hn:(xs.length+1)*8≤140737488355328){x:Option Addr}{m:Nat}(hv:h[m]? =some (.cells (qp x).toArray 50 (0,0)))
  (hvM:¬M m) (Q:∀b,h.size≤b→M b) {K:SliceV→ad→Prop} (hK:∀s' h',OwnS qp 1 50 M h' s' (xs.take k++x::xs.drop k)→Upd M h h'→K s' h'):
  eP 248 [.slice s.a s.len s.cap,.int .i64 k,.slice (some ⟨m,0,none⟩) 1 1] K h:=by
 refine cW (fy s k ⟨some ⟨m,0,none⟩,1,1⟩) kg Tryz.func248 Tryz.call248 ?_;dsimp only[fy,l8,mN,Kq,yi,D2,Q3,Vv];have n:=S.len;have hcap:=S.cap;have L:SRow h (some ⟨m,0,none⟩) (1*1) (qp x):=⟨rfl,.inr ⟨_,rfl,qU hv fun i v hi=>by simpa using hi⟩⟩
 refine⟨by omega,ag.2 ?_⟩;refine CondP.intro (fun e=>?_) fun e=>?_
 ·have e:k=xs.length:=by have:=of_decide_eq_true (by simpa using e:decide ((k:Int)=(s.len:Int))=true);omega
  subst e;refine⟨_,L,AppP.own (ys:= [x]) S rfl (by simp) rfl rfl (by omega) (by simp;omega) (Q _ (ai _)) fun s' h' ho hu=>hK s' h' ?_ hu⟩
  rw[bP,List.drop_length];exact ho
 have hlt:k<xs.length:=by
  rcases cr k xs.length with h|h
  ·exact h
  ·have:((k:Int)==(s.len:Int))=true:=by rw[beq_iff_eq];omega
   rw[this]at e;cases e
 rcases S.blk with h0|⟨b,d,ha,hb,hc,hr⟩
 ·omega
 have g:((xs.take k).flatMap qp).length=k*1:=by rw[iV qo,aQ,bZ Y]
 have o:((xs.drop k).flatMap qp).length=(xs.length-k)*1:=by rw[iV qo,aX]
 have F:m≠b:=fun e=>hvM (e▸hb)
 rw[xr (f:=qp) xs k]at hc;have a:(xs.take k++x::xs.drop k).flatMap qp=(xs.take k).flatMap qp++(qp x++(xs.drop k).flatMap qp):=by rw[co,aU]
 have j:=Ek (xs.drop k);have c:(qp x).length=1:=rfl;have z:cx (qp x)=true:=rfl;generalize hAe:(xs.take k).flatMap qp=A at g hc a;generalize hBe:(xs.drop k).flatMap qp=B at o hc a j;generalize qp x=X at L c hv a z;rw[ha];have w1:ac .i64 ((xs.length:Int)+((1:Nat):Int))=((xs.length+1:Nat):Int):=by rw[df (by omega)];omega
 have w2:ac .i64 ((k:Int)+((1:Nat):Int))=((k+1:Nat):Int):=by rw[df (by omega)];omega
 have w3:ac .i64 (((xs.length+1:Nat):Int)-(k:Int))=((xs.length+1-k:Nat):Int):=by rw[df (by omega)];omega
 simp only[w1,w2,w3,bf,n];refine ao (fun hgt=>?_) fun hle=>?_
 ·
  have I:s.cap=xs.length:=by omega
  refine Join.plain ⟨by omega,⟨by omega,by omega,by omega,by omega⟩,fun hin=>?_,fun N=>?_⟩
  ·omega
  ·refine⟨A,_,?_,rfl,by omega,Go.growslice_fits N (by omega),fun C w=>?_⟩
   ·rw[sub_zero]
    exact kr hc (by rw[g];omega) (by simp only[cE,dG];rw[aE,←g,ee (ai _),bP])
   ·simp only[bf]at w⊢
    have T:=Upd.hnew No h (A++cU (xs.length+1-k) [.pointer none]++cU (C-(k-0+(xs.length+1-k))) [.pointer none]) 50;have bn:=bU h (A++cU (xs.length+1-k) [.pointer none]++cU (C-(k-0+(xs.length+1-k))) [.pointer none]) 50;have u:(cU (xs.length+1-k) [.pointer none]).length=(xs.length+1-k)*1:=kV _ _;have hz2:(cU (C-(k-0+(xs.length+1-k))) [.pointer none]).length=(C-(k-0+(xs.length+1-k)))*1:=kV _ _
    have p:k-0+(xs.length+1-k)=xs.length+1:=by omega
    rw[cz];have hsz:h.size≠m:=fun e=>by have:=bw hv;omega
    have E:h.size≠b:=fun e=>by have:=bw hc;omega
    have D:=T.get0 hc;have H:=T.get0 hv;generalize hnew h _ 50=h9 at T bn D H;rw[p]at w hz2⊢;have V:dh 1 (xs.length+1-k)=1:=bZ (by omega);have m2:dh (xs.length-k) (xs.length+1-(k+1))=xs.length-k:=bZ (by omega);rw[V];have U:SRow h9 (some ⟨m,0,none⟩) (1*1) X:=kr H (by rw[c]) (by rw[cE,aS];rw[c];omega);refine⟨by omega,?_⟩
    rw[iM (by omega)];refine j4 U z bn (by simp only[ae,g,u];omega) fun Z O t=>⟨by omega,?_⟩
    simp only[Bd];rw[iM (by omega),iM (by omega),m2];refine⟨by omega,?_⟩;have y:=t.get D (fun e=>E e.symm)
    have br:SRow Z (some ⟨b,0+k*1,none⟩) ((xs.length-k)*1) B:=kr y o (by
     rw[aO,aE,←g,gv,←o,gt])
    refine j4 br j O ?_ fun h16 P G=>?_
    ·simp only[ae,aQ,aX,g,u,c];omega
    ·refine hK _ _ ⟨by simp;omega,qo,w,.inr ⟨h.size,cU (C-(xs.length+1)) [.pointer none],rfl,Q _ (ai _),?_,by rw[kV];rfl⟩⟩ ((T.wide.trans (M':=(· =h.size)) t fun b hb=>.inl (hb▸Q _ (ai _))).trans (M':=(· =h.size)) G fun b hb=>.inl (hb▸Q _ (ai _)))
     rw[P,a];have:=JJ (A:=A) (X:=X) (B:=B) (Z1:=cU (xs.length+1-k) [.pointer none]) (Z2:=cU (C-(xs.length+1)) [.pointer none]) (r:=(xs.length-k)*1) g c (by rw[u,←fC];congr 1;omega);rw[p,←this];simp only[aO,fC]
 ·have I:xs.length+1≤s.cap:=by omega
  refine⟨by omega,?_⟩;simp only[Bd,dG];rw[sub_zero,iM (show s.cap≠k+1 by omega),iM (show s.cap≠k by omega)]
  refine⟨by omega,?_⟩;have hrl:1≤d.length:=by rw[hr];exact oK _ (by omega)
  refine JD hv hc F (by rw[cP,ae];omega) ?_;refine aw.2 ⟨by omega,by omega,?_⟩
  have V:dh 1 (xs.length+1-k)=1:=bZ (by omega);have m2:dh (xs.length+1-k) (xs.length+1-(k+1))=xs.length-k:=by
   rw[show xs.length+1-(k+1)=xs.length-k by omega];exact mo (by omega)
  rw[m2];have br:SRow h (some ⟨b,0+k*1,none⟩) ((xs.length-k)*1) B:=kr hc o (by
   rw[aO,aE,←g,gv,←o,gt])
  refine j4 br j hc (by simp only[ae,g,o];omega) fun h1 W J=>⟨by omega,?_⟩
  rw[V];have xr1:SRow h1 (some ⟨m,0,none⟩) (1*1) X:=kr (J.get hv F) (by rw[c]) (by rw[cE,aS];rw[c];omega);refine j4 xr1 z W (by simp only[ae,aQ,aX,g,o];omega) fun h2 hb2 hu2=>?_
  refine hK _ _ ⟨by simp;omega,qo,I,.inr ⟨b,d.drop 1,rfl,hb,?_,?_⟩⟩ ((J.mono fun _ e=>.inl (e▸hb)).tr (hu2.mono fun _ e=>.inl (e▸hb)))
  ·rw[hb2,a]
   have:=NX (A:=A) (X:=X) (B:=B) (R:=d) (q:=1) (r:=(xs.length-k)*1) g o hrl;rw[←this];simp only[aO,fC]
  ·rw[aX,hr]
   (try simp only)
   rw[n];omega
abbrev ql(x:Option Addr):List Value:= [.pointer x]
theorem oc(x:Option Addr):(ql x).length=1∧0<1:=⟨rfl,by omega⟩
theorem Ej:∀xs:List (Option Addr),cx (xs.flatMap ql)=true
 | []=>rfl
 |x::xs=>by rw[aU];exact oo rfl (Ej xs)
theorem JB{h:ad}{a b o c d f e:Nat}{i cw:Array Value}{g tb:TypeId}(hv:h[a]? =some (.cells i g (0,0))) (hb:h[b]? =some (.cells cw tb (0,0))) (k:a≠b) (m:cw.size≠0) {K:Bool→ad→Prop} (n:K false h):
  fI 232 [.slice (some ⟨a,0,none⟩) c d,.slice (some ⟨b,o,none⟩) f e] K h:=by
 refine⟨fun w j=>.inr ⟨.bool false,w,?_,Tame.refl w,false,rfl,j▸n⟩⟩
 subst j;rw[pj];have:=Lib.run_overlaps_apart (P:=PG) w 254 4 51 (by kernel_rfl) (cq PG 51) (pY (by kernel_rfl)) ⟨a,0,none⟩ ⟨b,o,none⟩ c d f e k g tb i.size cw.size
  (by simp[World.shape?,hv]) (by simp[World.shape?,hb]) m (by simp[World.frozen?,hv]) (by simp[World.frozen?,hv])
 rw[show([Value.slice (some ⟨a,0,none⟩) c d,Value.slice (some ⟨b,o,none⟩) f e]:List Value).toArray= #[.slice (some ⟨a,0,none⟩) c d,.slice (some ⟨b,o,none⟩) f e]from rfl,this]
 rfl
set_option maxRecDepth 4000 in
theorem NU{M:Nat→Prop}{h:ad}{s:SliceV}{xs:List (Option Addr)}(S:OwnS ql 1 51 M h s xs){k:Nat}(Y:k≤xs.length)(hn:(xs.length+1)*8≤140737488355328){x:Option Addr}{m:Nat}(hv:h[m]? =some (.cells (ql x).toArray 51 (0,0)))
  (hvM:¬M m) (Q:∀b,h.size≤b→M b) {K:SliceV→ad→Prop} (hK:∀s' h',OwnS ql 1 51 M h' s' (xs.take k++x::xs.drop k)→Upd M h h'→K s' h'):
  eP 164 [.slice s.a s.len s.cap,.int .i64 k,.slice (some ⟨m,0,none⟩) 1 1] K h:=by
 refine cW (eX s k ⟨some ⟨m,0,none⟩,1,1⟩) jC Tryz.func164 Tryz.call164 ?_;dsimp only[eX,l8,mN,Kq,yi,D2,Q3,Vv];have n:=S.len;have hcap:=S.cap;have L:SRow h (some ⟨m,0,none⟩) (1*1) (ql x):=⟨rfl,.inr ⟨_,rfl,qU hv fun i v hi=>by simpa using hi⟩⟩
 refine⟨by omega,ag.2 ?_⟩;refine CondP.intro (fun e=>?_) fun e=>?_
 ·have e:k=xs.length:=by have:=of_decide_eq_true (by simpa using e:decide ((k:Int)=(s.len:Int))=true);omega
  subst e;refine⟨_,L,AppP.own (ys:= [x]) S rfl (by simp) rfl rfl (by omega) (by simp;omega) (Q _ (ai _)) fun s' h' ho hu=>hK s' h' ?_ hu⟩
  rw[bP,List.drop_length];exact ho
 have hlt:k<xs.length:=by
  rcases cr k xs.length with h|h
  ·exact h
  ·have:((k:Int)==(s.len:Int))=true:=by rw[beq_iff_eq];omega
   rw[this]at e;cases e
 rcases S.blk with h0|⟨b,d,ha,hb,hc,hr⟩
 ·omega
 have g:((xs.take k).flatMap ql).length=k*1:=by rw[iV oc,aQ,bZ Y]
 have o:((xs.drop k).flatMap ql).length=(xs.length-k)*1:=by rw[iV oc,aX]
 have F:m≠b:=fun e=>hvM (e▸hb)
 rw[xr (f:=ql) xs k]at hc;have a:(xs.take k++x::xs.drop k).flatMap ql=(xs.take k).flatMap ql++(ql x++(xs.drop k).flatMap ql):=by rw[co,aU]
 have j:=Ej (xs.drop k);have c:(ql x).length=1:=rfl;have z:cx (ql x)=true:=rfl;generalize hAe:(xs.take k).flatMap ql=A at g hc a;generalize hBe:(xs.drop k).flatMap ql=B at o hc a j;generalize ql x=X at L c hv a z;rw[ha];have w1:ac .i64 ((xs.length:Int)+((1:Nat):Int))=((xs.length+1:Nat):Int):=by rw[df (by omega)];omega
 have w2:ac .i64 ((k:Int)+((1:Nat):Int))=((k+1:Nat):Int):=by rw[df (by omega)];omega
 have w3:ac .i64 (((xs.length+1:Nat):Int)-(k:Int))=((xs.length+1-k:Nat):Int):=by rw[df (by omega)];omega
 simp only[w1,w2,w3,bf,n];refine ao (fun hgt=>?_) fun hle=>?_
 ·
  have I:s.cap=xs.length:=by omega
  refine Join.plain ⟨by omega,⟨by omega,by omega,by omega,by omega⟩,fun hin=>?_,fun N=>?_⟩
  ·omega
  ·refine⟨A,_,?_,rfl,by omega,Go.growslice_fits N (by omega),fun C w=>?_⟩
   ·rw[sub_zero]
    exact kr hc (by rw[g];omega) (by simp only[cE,dG];rw[aE,←g,ee (ai _),bP])
   ·simp only[bf]at w⊢
    have T:=Upd.hnew No h (A++cU (xs.length+1-k) [.pointer none]++cU (C-(k-0+(xs.length+1-k))) [.pointer none]) 51;have bn:=bU h (A++cU (xs.length+1-k) [.pointer none]++cU (C-(k-0+(xs.length+1-k))) [.pointer none]) 51;have u:(cU (xs.length+1-k) [.pointer none]).length=(xs.length+1-k)*1:=kV _ _;have hz2:(cU (C-(k-0+(xs.length+1-k))) [.pointer none]).length=(C-(k-0+(xs.length+1-k)))*1:=kV _ _
    have p:k-0+(xs.length+1-k)=xs.length+1:=by omega
    rw[cz];have hsz:h.size≠m:=fun e=>by have:=bw hv;omega
    have E:h.size≠b:=fun e=>by have:=bw hc;omega
    have D:=T.get0 hc;have H:=T.get0 hv;generalize hnew h _ 51=h9 at T bn D H;rw[p]at w hz2⊢;have V:dh 1 (xs.length+1-k)=1:=bZ (by omega);have m2:dh (xs.length-k) (xs.length+1-(k+1))=xs.length-k:=bZ (by omega);rw[V];have U:SRow h9 (some ⟨m,0,none⟩) (1*1) X:=kr H (by rw[c]) (by rw[cE,aS];rw[c];omega);refine⟨by omega,?_⟩
    rw[iM (by omega)];refine j4 U z bn (by simp only[ae,g,u];omega) fun Z O t=>⟨by omega,?_⟩
    simp only[Bd];rw[iM (by omega),iM (by omega),m2];refine⟨by omega,?_⟩;have y:=t.get D (fun e=>E e.symm)
    have br:SRow Z (some ⟨b,0+k*1,none⟩) ((xs.length-k)*1) B:=kr y o (by
     rw[aO,aE,←g,gv,←o,gt])
    refine j4 br j O ?_ fun h16 P G=>?_
    ·simp only[ae,aQ,aX,g,u,c];omega
    ·refine hK _ _ ⟨by simp;omega,oc,w,.inr ⟨h.size,cU (C-(xs.length+1)) [.pointer none],rfl,Q _ (ai _),?_,by rw[kV];rfl⟩⟩ ((T.wide.trans (M':=(· =h.size)) t fun b hb=>.inl (hb▸Q _ (ai _))).trans (M':=(· =h.size)) G fun b hb=>.inl (hb▸Q _ (ai _)))
     rw[P,a];have:=JJ (A:=A) (X:=X) (B:=B) (Z1:=cU (xs.length+1-k) [.pointer none]) (Z2:=cU (C-(xs.length+1)) [.pointer none]) (r:=(xs.length-k)*1) g c (by rw[u,←fC];congr 1;omega);rw[p,←this];simp only[aO,fC]
 ·have I:xs.length+1≤s.cap:=by omega
  refine⟨by omega,?_⟩;simp only[Bd,dG];rw[sub_zero,iM (show s.cap≠k+1 by omega),iM (show s.cap≠k by omega)]
  refine⟨by omega,?_⟩;have hrl:1≤d.length:=by rw[hr];exact oK _ (by omega)
  refine JB hv hc F (by rw[cP,ae];omega) ?_;refine aw.2 ⟨by omega,by omega,?_⟩
  have V:dh 1 (xs.length+1-k)=1:=bZ (by omega);have m2:dh (xs.length+1-k) (xs.length+1-(k+1))=xs.length-k:=by
   rw[show xs.length+1-(k+1)=xs.length-k by omega];exact mo (by omega)
  rw[m2];have br:SRow h (some ⟨b,0+k*1,none⟩) ((xs.length-k)*1) B:=kr hc o (by
   rw[aO,aE,←g,gv,←o,gt])
  refine j4 br j hc (by simp only[ae,g,o];omega) fun h1 W J=>⟨by omega,?_⟩
  rw[V];have xr1:SRow h1 (some ⟨m,0,none⟩) (1*1) X:=kr (J.get hv F) (by rw[c]) (by rw[cE,aS];rw[c];omega);refine j4 xr1 z W (by simp only[ae,aQ,aX,g,o];omega) fun h2 hb2 hu2=>?_
  refine hK _ _ ⟨by simp;omega,oc,I,.inr ⟨b,d.drop 1,rfl,hb,?_,?_⟩⟩ ((J.mono fun _ e=>.inl (e▸hb)).tr (hu2.mono fun _ e=>.inl (e▸hb)))
  ·rw[hb2,a]
   have:=NX (A:=A) (X:=X) (B:=B) (R:=d) (q:=1) (r:=(xs.length-k)*1) g o hrl;rw[←this];simp only[aO,fC]
  ·rw[aX,hr]
   (try simp only)
   rw[n];omega
end Go.Proofs
namespace Go.Proofs
open Go Go.Lift
theorem uL{W:Nat→Prop}{h:ad}{s:SliceV}{xs:List (ByteArray×ByteArray)}(c:Sl dQ 2 W h s xs)(j:xs.length*32≤140737488355328){K:SliceV→ad→Prop}
  (e:∀s' h',OwnS dQ 2 33 (fun b=>h.size≤b) h' s' xs→Upd No h h'→K s' h'):eP 225 [.slice s.a s.len s.cap] K h:=by
 refine cW (gR s) .nil Tryz.func225 Tryz.call225 ?_;unfold gR mY;refine CondP.intro (fun d=>?_) (fun i=>?_)
 ·have d:s.a=none:=by simpa using d
  have hx:xs= []:=by
   by_cases hx:xs= []
   ·exact hx
   ·obtain⟨a,g,_⟩:=c.row hx
    rw[d]at g;cases g
  subst hx;exact e _ _ (OwnS.nil fc) (Upd.refl _ _)
 ·have n:=c.upd (Upd.hnew No h [] 33) (fun _ h=>h.elim)
  refine⟨_,n.srow,?_⟩;refine AppP.own (f:=dQ) (M:=fun b=>h.size≤b) (xs:= []) (ys:=xs) ⟨rfl,fc,ai _,.inl rfl⟩ c.len rfl (vC xs) rfl (by omega) (by simpa using j) (by rw[dC];omega) fun s' h' m k=>?_
  exact e _ _ m ((Upd.hnew No h [] 33).trans k fun b hb=>.inr hb)
theorem Oc{M:Nat→Prop}{h:ad}{s:SliceV}{xs:List (ByteArray×ByteArray)}(x:OwnS dQ 2 33 M h s xs){k:Nat}(u:k<xs.length)(N:xs.length≤4398046511104)
  {K:SliceV→ad→Prop}(F:∀s' h',OwnS dQ 2 33 M h' s' (xs.take k++xs.drop (k+1))→Upd M h h'→K s' h'):
  eP 285 [.slice s.a s.len s.cap,.int .i64 k,.int .i64 ((k+1:Nat):Int)] K h:=by
 refine cW (gE s k ((k+1:Nat):Int)) me Tryz.func285 Tryz.call285 ?_;dsimp only[gE,mY,l8,mN,Q6,Q5,Q0];have d:=x.len;have z:=x.cap;rcases x.blk with J|⟨b,a,E,hb,hc,C⟩
 ·omega
 have p:((xs.take k).flatMap dQ).length=k*2:=by rw[iV fc,aQ,bZ (by omega)]
 have m:((xs.drop (k+1)).flatMap dQ).length=(xs.length-(k+1))*2:=by rw[iV fc,aX]
 have G:xs.flatMap dQ=(xs.take k).flatMap dQ++(dQ xs[k]++(xs.drop (k+1)).flatMap dQ):=by
  rw[←aU,←fL u];exact xr xs k
 rw[G]at hc;have f:=vC (xs.drop (k+1));have c:(xs.take k++xs.drop (k+1)).flatMap dQ=(xs.take k).flatMap dQ++(xs.drop (k+1)).flatMap dQ:=co;have H:(dQ xs[k]).length=2:=rfl;generalize (xs.take k).flatMap dQ=A at p hc c;generalize (xs.drop (k+1)).flatMap dQ=B at m hc f c;generalize dQ xs[k]=X at H hc;rw[E];simp only[d,bf];refine⟨by omega,by omega,by omega,CondP.intro (fun e=>?_) fun _=>?_⟩
 ·have:(k:Int)=((k+1:Nat):Int):=by simpa using e
  omega
 refine Join.plain ⟨by omega,by omega,B,?_,?_⟩
 ·by_cases g:xs.length=k+1
  ·exact⟨m,.inl (aG.1 (by rw[m,g,gY,vT]))⟩
  rw[iM (by omega)];refine kr hc m ?_;have:(A++X).length=0+(k+1)*2:=by rw[ae];omega
  rw[show A++(X++B)++a=(A++X)++(B++a) by simp only[aE],cA this,cK m]
 ·rw[sub_zero]
  refine Oi hc (by simp only[ae];omega) (by omega) f fun O i w=>?_
  have q:a.length=(s.cap-xs.length)*2:=by rw[C,d]
  refine⟨by dsimp only;omega,by dsimp only;omega,?_⟩
  simp only[Bd];rw[iM (by omega)];have en:xs.length-(k-0+(xs.length-(k+1)))=1:=by omega
  have t:(A++(X++B)++a).drop ((k-0)*2+B.length)=(X++B).drop B.length++a:=by
   rw[aE,←cL,cA (show A.length=(k-0)*2 by rw[p,dG]),eo (by rw[ae];omega)]
  have y:(A++(X++B)++a).take ((k-0)*2)=A:=by rw[aE,cK (show A.length=(k-0)*2 by rw[p,dG])]
  rw[t,y]at i;have n:((X++B).drop B.length).length=2:=by rw[aX,ae];omega
  generalize (X++B).drop B.length=D at n i;rw[en];have I:(cU 1 [.string (⟨#[]⟩:ByteArray),.string (⟨#[]⟩:ByteArray)]).length=2:=rfl;have j:(A++B).length=0+(k-0+(xs.length-(k+1)))*2:=by rw[ae,p,m];omega
  refine Eh i (by simp only[ae]at j⊢;omega) fun L o v=>?_
  rw[cK j,←cL,cA j]at o;refine F _ _ ⟨by simp;omega,fc,by(try simp only);omega,.inr ⟨b,cU 1 [.string (⟨#[]⟩:ByteArray),.string (⟨#[]⟩:ByteArray)]++(D++a).drop (cU 1 [.string (⟨#[]⟩:ByteArray),.string (⟨#[]⟩:ByteArray)]).length,rfl,hb,?_,?_⟩⟩ ((w.mono fun _ e=>.inl (e▸hb)).tr (v.mono fun _ e=>.inl (e▸hb)))
  ·rw[o,c];simp only[aE]
  ·simp only[ae,aX,I,n,q]
   omega
theorem Cb{W:Nat→Prop}{h:ad}{s:SliceV}{xs:List (Option Addr)}(c:Sl qp 1 W h s xs)(j:xs.length*8≤140737488355328){K:SliceV→ad→Prop}
  (e:∀s' h',OwnS qp 1 50 (fun b=>h.size≤b) h' s' xs→Upd No h h'→K s' h'):eP 226 [.slice s.a s.len s.cap] K h:=by
 refine cW (fS s) .nil Tryz.func226 Tryz.call226 ?_;unfold fS;refine CondP.intro (fun d=>?_) (fun i=>?_)
 ·have d:s.a=none:=by simpa using d
  have hx:xs= []:=by
   by_cases hx:xs= []
   ·exact hx
   ·obtain⟨a,g,_⟩:=c.row hx
    rw[d]at g;cases g
  subst hx;exact e _ _ (OwnS.nil qo) (Upd.refl _ _)
 ·have n:=c.upd (Upd.hnew No h [] 50) (fun _ h=>h.elim)
  refine⟨_,n.srow,?_⟩;refine AppP.own (f:=qp) (M:=fun b=>h.size≤b) (xs:= []) (ys:=xs) ⟨rfl,qo,ai _,.inl rfl⟩ c.len rfl (Ek xs) rfl (by omega) (by simpa using j) (by rw[dC];omega) fun s' h' m k=>?_
  exact e _ _ m ((Upd.hnew No h [] 50).trans k fun b hb=>.inr hb)
theorem Od{M:Nat→Prop}{h:ad}{s:SliceV}{xs:List (Option Addr)}(x:OwnS qp 1 50 M h s xs){k:Nat}(u:k<xs.length)(N:xs.length≤4398046511104)
  {K:SliceV→ad→Prop}(F:∀s' h',OwnS qp 1 50 M h' s' (xs.take k++xs.drop (k+1))→Upd M h h'→K s' h'):
  eP 286 [.slice s.a s.len s.cap,.int .i64 k,.int .i64 ((k+1:Nat):Int)] K h:=by
 refine cW (fz s k ((k+1:Nat):Int)) kh Tryz.func286 Tryz.call286 ?_;dsimp only[fz,l8,mN,Q6,Q5,Q0];have d:=x.len;have z:=x.cap;rcases x.blk with J|⟨b,a,E,hb,hc,C⟩
 ·omega
 have p:((xs.take k).flatMap qp).length=k*1:=by rw[iV qo,aQ,bZ (by omega)]
 have m:((xs.drop (k+1)).flatMap qp).length=(xs.length-(k+1))*1:=by rw[iV qo,aX]
 have G:xs.flatMap qp=(xs.take k).flatMap qp++(qp xs[k]++(xs.drop (k+1)).flatMap qp):=by
  rw[←aU,←fL u];exact xr xs k
 rw[G]at hc;have f:=Ek (xs.drop (k+1));have c:(xs.take k++xs.drop (k+1)).flatMap qp=(xs.take k).flatMap qp++(xs.drop (k+1)).flatMap qp:=co;have H:(qp xs[k]).length=1:=rfl;generalize (xs.take k).flatMap qp=A at p hc c;generalize (xs.drop (k+1)).flatMap qp=B at m hc f c;generalize qp xs[k]=X at H hc;rw[E];simp only[d,bf];refine⟨by omega,by omega,by omega,CondP.intro (fun e=>?_) fun _=>?_⟩
 ·have:(k:Int)=((k+1:Nat):Int):=by simpa using e
  omega
 refine Join.plain ⟨by omega,by omega,B,?_,?_⟩
 ·by_cases g:xs.length=k+1
  ·exact⟨m,.inl (aG.1 (by rw[m,g,gY,vT]))⟩
  rw[iM (by omega)];refine kr hc m ?_;have:(A++X).length=0+(k+1)*1:=by rw[ae];omega
  rw[show A++(X++B)++a=(A++X)++(B++a) by simp only[aE],cA this,cK m]
 ·rw[sub_zero]
  refine Oi hc (by simp only[ae];omega) (by omega) f fun O i w=>?_
  have q:a.length=(s.cap-xs.length)*1:=by rw[C,d]
  refine⟨by dsimp only;omega,by dsimp only;omega,?_⟩
  simp only[Bd];rw[iM (by omega)];have en:xs.length-(k-0+(xs.length-(k+1)))=1:=by omega
  have t:(A++(X++B)++a).drop ((k-0)*1+B.length)=(X++B).drop B.length++a:=by
   rw[aE,←cL,cA (show A.length=(k-0)*1 by rw[p,dG]),eo (by rw[ae];omega)]
  have y:(A++(X++B)++a).take ((k-0)*1)=A:=by rw[aE,cK (show A.length=(k-0)*1 by rw[p,dG])]
  rw[t,y]at i;have n:((X++B).drop B.length).length=1:=by rw[aX,ae];omega
  generalize (X++B).drop B.length=D at n i;rw[en];have I:(cU 1 [.pointer none]).length=1:=rfl;have j:(A++B).length=0+(k-0+(xs.length-(k+1)))*1:=by rw[ae,p,m];omega
  refine Eh i (by simp only[ae]at j⊢;omega) fun L o v=>?_
  rw[cK j,←cL,cA j]at o;refine F _ _ ⟨by simp;omega,qo,by(try simp only);omega,.inr ⟨b,cU 1 [.pointer none]++(D++a).drop (cU 1 [.pointer none]).length,rfl,hb,?_,?_⟩⟩ ((w.mono fun _ e=>.inl (e▸hb)).tr (v.mono fun _ e=>.inl (e▸hb)))
  ·rw[o,c];simp only[aE]
  ·simp only[ae,aX,I,n,q]
   omega
theorem Ir{W:Nat→Prop}{h:ad}{s:SliceV}{xs:List (Option Addr)}(c:Sl ql 1 W h s xs)(j:xs.length*8≤140737488355328){K:SliceV→ad→Prop}
  (e:∀s' h',OwnS ql 1 51 (fun b=>h.size≤b) h' s' xs→Upd No h h'→K s' h'):eP 224 [.slice s.a s.len s.cap] K h:=by
 refine cW (ff s) .nil Tryz.func224 Tryz.call224 ?_;unfold ff;refine CondP.intro (fun d=>?_) (fun i=>?_)
 ·have d:s.a=none:=by simpa using d
  have hx:xs= []:=by
   by_cases hx:xs= []
   ·exact hx
   ·obtain⟨a,g,_⟩:=c.row hx
    rw[d]at g;cases g
  subst hx;exact e _ _ (OwnS.nil oc) (Upd.refl _ _)
 ·have n:=c.upd (Upd.hnew No h [] 51) (fun _ h=>h.elim)
  refine⟨_,n.srow,?_⟩;refine AppP.own (f:=ql) (M:=fun b=>h.size≤b) (xs:= []) (ys:=xs) ⟨rfl,oc,ai _,.inl rfl⟩ c.len rfl (Ej xs) rfl (by omega) (by simpa using j) (by rw[dC];omega) fun s' h' m k=>?_
  exact e _ _ m ((Upd.hnew No h [] 51).trans k fun b hb=>.inr hb)
theorem Ob{M:Nat→Prop}{h:ad}{s:SliceV}{xs:List (Option Addr)}(x:OwnS ql 1 51 M h s xs){k:Nat}(u:k<xs.length)(N:xs.length≤4398046511104)
  {K:SliceV→ad→Prop}(F:∀s' h',OwnS ql 1 51 M h' s' (xs.take k++xs.drop (k+1))→Upd M h h'→K s' h'):
  eP 263 [.slice s.a s.len s.cap,.int .i64 k,.int .i64 ((k+1:Nat):Int)] K h:=by
 refine cW (eY s k ((k+1:Nat):Int)) jD Tryz.func263 Tryz.call263 ?_;dsimp only[eY,l8,mN,Q6,Q5,Q0];have d:=x.len;have z:=x.cap;rcases x.blk with J|⟨b,a,E,hb,hc,C⟩
 ·omega
 have p:((xs.take k).flatMap ql).length=k*1:=by rw[iV oc,aQ,bZ (by omega)]
 have m:((xs.drop (k+1)).flatMap ql).length=(xs.length-(k+1))*1:=by rw[iV oc,aX]
 have G:xs.flatMap ql=(xs.take k).flatMap ql++(ql xs[k]++(xs.drop (k+1)).flatMap ql):=by
  rw[←aU,←fL u];exact xr xs k
 rw[G]at hc;have f:=Ej (xs.drop (k+1));have c:(xs.take k++xs.drop (k+1)).flatMap ql=(xs.take k).flatMap ql++(xs.drop (k+1)).flatMap ql:=co;have H:(ql xs[k]).length=1:=rfl;generalize (xs.take k).flatMap ql=A at p hc c;generalize (xs.drop (k+1)).flatMap ql=B at m hc f c;generalize ql xs[k]=X at H hc;rw[E];simp only[d,bf];refine⟨by omega,by omega,by omega,CondP.intro (fun e=>?_) fun _=>?_⟩
 ·have:(k:Int)=((k+1:Nat):Int):=by simpa using e
  omega
 refine Join.plain ⟨by omega,by omega,B,?_,?_⟩
 ·by_cases g:xs.length=k+1
  ·exact⟨m,.inl (aG.1 (by rw[m,g,gY,vT]))⟩
  rw[iM (by omega)];refine kr hc m ?_;have:(A++X).length=0+(k+1)*1:=by rw[ae];omega
  rw[show A++(X++B)++a=(A++X)++(B++a) by simp only[aE],cA this,cK m]
 ·rw[sub_zero]
  refine Oi hc (by simp only[ae];omega) (by omega) f fun O i w=>?_
  have q:a.length=(s.cap-xs.length)*1:=by rw[C,d]
  refine⟨by dsimp only;omega,by dsimp only;omega,?_⟩
  simp only[Bd];rw[iM (by omega)];have en:xs.length-(k-0+(xs.length-(k+1)))=1:=by omega
  have t:(A++(X++B)++a).drop ((k-0)*1+B.length)=(X++B).drop B.length++a:=by
   rw[aE,←cL,cA (show A.length=(k-0)*1 by rw[p,dG]),eo (by rw[ae];omega)]
  have y:(A++(X++B)++a).take ((k-0)*1)=A:=by rw[aE,cK (show A.length=(k-0)*1 by rw[p,dG])]
  rw[t,y]at i;have n:((X++B).drop B.length).length=1:=by rw[aX,ae];omega
  generalize (X++B).drop B.length=D at n i;rw[en];have I:(cU 1 [.pointer none]).length=1:=rfl;have j:(A++B).length=0+(k-0+(xs.length-(k+1)))*1:=by rw[ae,p,m];omega
  refine Eh i (by simp only[ae]at j⊢;omega) fun L o v=>?_
  rw[cK j,←cL,cA j]at o;refine F _ _ ⟨by simp;omega,oc,by(try simp only);omega,.inr ⟨b,cU 1 [.pointer none]++(D++a).drop (cU 1 [.pointer none]).length,rfl,hb,?_,?_⟩⟩ ((w.mono fun _ e=>.inl (e▸hb)).tr (v.mono fun _ e=>.inl (e▸hb)))
  ·rw[o,c];simp only[aE]
  ·simp only[ae,aX,I,n,q]
   omega
end Go.Proofs
namespace Go.Proofs
open Go.Lift
abbrev Pr:=ByteArray×ByteArray
theorem yd{a b:ByteArray}:a.toList=b.toList↔a=b:=by
 constructor
 ·intro h
  rw[ByteArray.toList_eq,ByteArray.toList_eq]at h;cases a;cases b;simp at h;subst h;rfl
 ·rintro rfl;rfl
def kl(a b:ByteArray):Prop:=bI a.toList b.toList=true
instance (a b:ByteArray):Decidable (kl a b):=inferInstanceAs (Decidable (_=true))
theorem JH{a b:ByteArray}:kl a b↔a.toList<b.toList:=by unfold kl;rw[bytesLess_eq,decide_eq_true_iff]
theorem bN(a:ByteArray):¬kl a a:=by rw[JH];exact List.lt_irrefl _
theorem dw{a b c:ByteArray}(h:kl a b)(k:kl b c):kl a c:=by rw[JH]at*;exact List.lt_trans h k
theorem tri:∀x y:List UInt8,bI x y=false→x≠y→bI y x=true
 | [],[],_,h=>absurd rfl h
 | [],_::_,h,_=>by simp[bI]at h
 |_::_,[],_,_=>rfl
 |a::x,b::y,h,hn=>by
  simp only[bI,Bool.or_eq_false_iff,decide_eq_false_iff_not,Bool.and_eq_false_iff]at h;simp only[bI,Bool.or_eq_true,decide_eq_true_iff,Bool.and_eq_true];by_cases e:a=b
  ·subst e
   right;refine⟨by simp,tri x y ?_ fun e=>hn (by rw[e])⟩
   rcases h.2 with h|h
   ·simp at h
   ·exact h
  ·left
   have c:=h.1;rw[UInt8.lt_iff_toNat_lt]at c⊢;have:a.toNat≠b.toNat:=fun h=>e (UInt8.toNat_inj.1 h)
   omega
theorem kz{a b:ByteArray}(h:¬kl a b)(k:a≠b):kl b a:=tri _ _ (by unfold kl at h;simpa using h) fun e=>k (yd.1 e)
def uK(a b:ByteArray):Int:=if kl a b then-1 else if a=b then 0 else 1
theorem LR{x:ByteArray}{h:ad}{K:Bool→ad→Prop}(a:K false h):fI 141 [.string x] K h:=by
 refine cW (wE x) .nil Tryz.func141 Tryz.call141 ?_;unfold wE;simpa using a
theorem FV{a b:ByteArray}{h:ad}{K:Int→ad→Prop}(c:K (uK a b) h):fH 92 [.string a,.string b] K h:=by
 refine cW (ua a b) .nil Tryz.func92 Tryz.call92 ?_;unfold ua;refine LR (LR (ag.2 (ag.2 ?_)));unfold uK at c;refine CondP.intro (fun e=>?_) fun e=>?_
 ·rw[if_pos (show kl a b from e)]at c;exact c
 ·have f:¬kl a b:=fun h=>by rw[show bI a.toList b.toList=true from h]at e;cases e
  rw[if_neg f]at c;rw[e];refine CondP.intro (fun d=>?_) fun d=>?_
  ·rw[if_neg (fun h=>by subst h;simp at d)]at c;exact c
  ·have:a.toList=b.toList:=by simpa using d
   rw[if_pos (yd.1 this)]at c;exact c
theorem LC{p:Pr}{k:ByteArray}{h:ad}{K:Int→ad→Prop}(a:∀h',Upd No h h'→K (uK p.1 k) h'):fH 280 [.agg #[.string p.1,.string p.2],.string k] K h:=by
 refine cW (Bi p k) .nil Tryz.func280 Tryz.call280 ?_;dsimp only[Bi,kJ,fY,bi,p8,yg];have b1:=bU h [.string p.1,.string p.2] 33;refine⟨p.1,by rw[cz,ce,bd b1];rfl,FV (a _ (Upd.hnew No h _ _))⟩
abbrev bM(l:List Pr):Prop:=l.Pairwise fun p q=>kl p.1 q.1
def pos(l:List Pr)(k:ByteArray):Nat:=(l.takeWhile fun p=>decide (kl p.1 k)).length
def cy(l:List Pr)(k:ByteArray):Bool:=l.any fun p=>decide (p.1=k)
theorem Sj{l:List Pr}{k:ByteArray}{i:Nat}(hi:i≤l.length)(b:∀j (h:j<l.length),j<i→kl l[j].1 k)(a:∀(h:i<l.length),¬kl l[i].1 k):pos l k=i:=by
 unfold pos;induction l generalizing i with
 |nil=>simp at hi;simp[hi]
 |cons p l ih=>
  rw[List.takeWhile_cons];cases i with
  |zero=>
   have:=a (by simp);simp only[dH]at this;rw[if_neg (by simpa using this)];rfl
  |succ i=>
   have:=b 0 (by simp) (by omega);simp only[dH]at this;rw[if_pos (by simpa using this),List.length_cons];congr 1
   refine ih (by simpa using hi) (fun j d c=>?_) fun h=>?_
   ·have:=b (j+1) (by simpa using d) (by omega)
    simpa using this
   ·have:=a (by simpa using h)
    simpa using this
theorem Sk(l:List Pr)(k:ByteArray):pos l k≤l.length:=by
 unfold pos;exact(List.takeWhile_prefix _).length_le
theorem JS{W:Nat→Prop}{h:ad}{s:SliceV}{l:List Pr}(X:Sl dQ 2 W h s l)(hr:bM l)(hn:l.length≤1000000000)(k:ByteArray){K:Int×Bool→ad→Prop}
  (E:∀h',Upd No h h'→K ((pos l k:Int),cy l k) h'):xh 238 [.slice s.a s.len s.cap,.string k] K h:=by
 refine cW (Dq s k) .nil Tryz.func238 Tryz.call238 ?_;unfold Dq;refine ip s k _ ?_;dsimp only[dT,oW,wI,rY,jA,fQ,Hf,cZ,Kr];have T:=X.len;have J:∀{p:Pr} {h:ad} {K:Int→ad→Prop},(∀h',Upd No h h'→K (uK p.1 k) h')→HV PG (.func (.func 280) #[] #[]) [.agg #[.string p.1,.string p.2],.string k] [.c (.int .i64)] K h:=fun E=>HV.mk' (LC E)
 refine LoopP.ghost (fun(g:Nat×Nat) (t:Int×Int) h'=>t.1=(g.1:Int)∧t.2=(g.2:Int)∧g.1≤g.2∧g.2≤l.length∧Upd No h h'∧(∀j (P:j<l.length),j<g.1→kl l[j].1 k)∧(∀j (P:j<l.length),g.2≤j→¬kl l[j].1 k)) (fun g=>g.2-g.1) (0,l.length)
  ⟨rfl,by(try simp only);omega,by simp,by simp,Upd.refl _ _,fun j P h=>by omega,fun j P h=>by(try simp only at h);omega⟩ ?_
 rintro I ⟨i,j⟩ ⟨ti,tj⟩ h' ⟨Y,V,B,C,N,f,u⟩ U;(try simp only at Y V B C f u)
 subst Y V;have L:=X.upd N fun _ h=>h.elim
 have mono:∀a b (D:a<l.length) (hb:b<l.length),a<b→kl l[a].1 l[b].1:=fun a b D hb S=>List.pairwise_iff_getElem.1 hr a b D hb S
 refine ao (fun v=>?_) fun O=>?_
 ·have v:i<j:=by have:(i:Int)<(j:Int):=v;omega
  have em:ac .i64 (eS (ac .u64 (ac .i64 ((i:Int)+(j:Int)))) (2^(min (1:Int).toNat (ak .u64))))=(((i+j)/2:Nat):Int):=by
   have Z:(2^(min (1:Int).toNat (ak .u64)):Int)=2:=rfl;rw[Z,df (x:=(i:Int)+(j:Int)) (by omega),Go.IntWalk.u64_in _ (by omega),Int.fdiv_eq_ediv_of_nonneg _ (by omega),df (by omega)];omega
  refine⟨by decide,?_⟩;simp only[Bd];rw[em];generalize hm:(i+j)/2=m;have A:m<l.length:=by omega
  obtain⟨a,D,_,hv⟩:=L.at (af A);refine⟨by omega,a,D,l[m].1,hv 0 _ rfl,l[m].2,hv 1 _ rfl,J fun h2 w=>?_⟩
  refine ao (fun o=>?_) fun F=>?_
  ·have c:kl l[m].1 k:=by
    unfold uK at o;by_cases c:kl l[m].1 k
    ·exact c
    ·rw[if_neg c]at o;split at o<;>omega
   refine U (m+1,j) _ _ ⟨by(try simp only);rw[df (by omega)];omega,rfl,by(try simp only);omega,C,N.tr w,fun q y z=>?_,u⟩ (by(try simp only);omega)
   (try simp only at z)
   rcases cr q m with h|h
   ·exact dw (mono q m y A h) c
   ·have:q=m:=by omega
    subst this;exact c
  ·have n:¬kl l[m].1 k:=fun c=>F (by unfold uK;rw[if_pos c];decide)
   refine U (i,m) _ _ ⟨rfl,rfl,by(try simp only);omega,by(try simp only);omega,N.tr w,f,fun q y z G=>?_⟩ (by(try simp only);omega)
   (try simp only at z)
   rcases cr m q with h|h
   ·exact n (dw (mono m q A y h) G)
   ·have:q=m:=by omega
    subst this;exact n G
 ·have B:i=j:=by have:¬(i:Int)<(j:Int):=O;omega
  subst B;have H:pos l k=i:=Sj C f fun hi=>u i hi (ai _)
  rw[H]at E;refine ao (fun v=>?_) fun Q=>?_
  ·have d:i<l.length:=by have:(i:Int)<(s.len:Int):=v;omega
   obtain⟨a,D,_,hv⟩:=L.at (af d);refine⟨by(try simp only);omega,a,D,l[i].1,hv 0 _ rfl,l[i].2,hv 1 _ rfl,J fun h2 w=>?_⟩
   have n:=u i d (ai _);have R:(uK l[i].1 k==(0:Int))=cy l k:=by
    unfold uK cy;rw[if_neg n,Bool.eq_iff_iff,List.any_eq_true];constructor
    ·intro h
     split at h
     ·rename_i e;exact⟨l[i],List.getElem_mem d,decide_eq_true e⟩
     ·simp at h
    ·rintro⟨p,H,e⟩
     have e:=of_decide_eq_true e;obtain⟨q,y,rfl⟩:=List.mem_iff_getElem.1 H;have:q=i:=by
      rcases Nat.lt_trichotomy q i with h|h|h
      ·exact absurd (e▸f q y h) (bN _)
      ·exact h
      ·exact absurd (e▸mono i q d y h) n
     subst this;rw[if_pos e];rfl
   rw[R];exact E _ (N.tr w)
  ·have d:i=l.length:=by have:¬(i:Int)<(s.len:Int):=Q;omega
   have R:cy l k=false:=by
    unfold cy;rw[List.any_eq_false];intro p H e;have e:=of_decide_eq_true e;obtain⟨q,y,rfl⟩:=List.mem_iff_getElem.1 H;exact absurd (e▸f q y (by omega)) (bN _)
   rw[R]at E;exact E _ N
end Go.Proofs
