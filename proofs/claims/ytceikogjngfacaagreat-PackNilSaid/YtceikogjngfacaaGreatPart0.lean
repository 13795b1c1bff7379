/- A part of the proof that the named laws of this program answer true, whatever the input. -/
import Derived.Test.YtceikogjngfacaaGreatTreeF0
import Derived.Test.YtceikogjngfacaaGreatTreeF1
import Derived.Test.YtceikogjngfacaaGreatTreeF2
import Derived.Test.YtceikogjngfacaaGreatLaw0
import Derived.Test.YtceikogjngfacaaGreatLift3
import Derived.Lib.Overlaps
import Derived.Sort.Walk0
open BitVec renaming ofInt→ao,ofInt_natCast→iy,getLsbD_ofNat→nJ
open Bool renaming eq_iff_iff→jZ
open Go.IntKind renaming wrap→ac,bits→ai
open Go.Op renaming bytesLess→be
open Int renaming fdiv→dI,toNat_natCast→bN,fdiv_eq_ediv_of_nonneg→fo
open List renaming flatMap_cons→cy,take_length→gZ,length_take→aO,length_drop→aP,flatMap_append→cX,drop_zero→dH,append_assoc→aF,take_append_of_le_length→iw,take_of_length_le→bL,length_append→ae,drop_left→lu,take_left→lm,size_toArray→dE,drop_eq_getElem_cons→dL,length_eq_zero_iff→aw,drop_left'→du,take_left'→dM,drop_drop→cS,drop_append_of_le_length→ix,length_cons→ax,pairwise_iff_getElem→jT,getElem?_eq_getElem→aj,any_eq_true→g8,replicate→lr,replicate_succ→oE,flatten_cons→rc,length→jp,range→fB,mem_range→qY
open Nat renaming zero_le→bJ,zero_add→bi,sub_self→dJ,le_refl→aq,lt_or_ge→eD,min_eq_left→cC,sub_zero→eX,min→f9,add_one_mul→mq,one_mul→vV,testBit_and→mo,testBit_two_pow_sub_one→mO,shiftRight_eq_div_pow→oe,lt_of_le_of_lt→jE,shiftRight_le→qX,mod_eq_of_lt→gY,lt_of_lt_of_le→aG,pow_le_pow_right→iv
open UInt8 renaming ofNat→fj
namespace Go.Proofs
open Go.Lift
theorem LY(n:Int):0≤ac .u64 n∧ac .u64 n<18446744073709551616:=by rw[IntKind.wrap_u64];omega
theorem dW{x:Int}(h: -4611686018427387904≤x∧x≤4611686018427387904):ac .i64 x=x:=Go.IntWalk.i64_in _ (by omega)
theorem rt{i n:Nat}(h:i<n)(b:n≤4611686018427387904):ac .i64 ((i:Int)+1)=((i+1:Nat):Int):=by rw[dW (by omega)];omega
theorem Bv{h:af}{b i:Nat}{c:Array Value}{t:TypeId}{v:Value}{k:af→Prop}(d:h[b]? =some (.cells c t (0,0)))
  (e:∀h',h'[b]? =some (.cells (c.setIfInBounds i v) t (0,0))→Upd (· =b) h h'→k h'):At (hset h ⟨b,i,none⟩ v) k:=by
 refine e _ ?_ (Upd.hset _ _ rfl);rw[oL d,fe d]
def Sd(a b:Int):Int:=ac .u64 (ao (ai .u64) a&&&ao (ai .u64) b).toNat
def gD(a b:Int):Int:=ac .u64 (ao (ai .u64) a^^^ao (ai .u64) b).toNat
def QD(a b:Int):Int:=ac .u64 (ao (ai .u64) a|||ao (ai .u64) b).toNat
def Mf(x n:Int):Int:=
 QD (ac .u64 (x*2^(min (Sd (ac .u64 n) 63).toNat (ai .u64)))) (dI x (2^(min (ac .u64 (64-Sd (ac .u64 n) 63)).toNat (ai .u64))))
theorem C8{x n:Int}{h:af}{K:Int→af→Prop}(b:K (Mf x n) h):HC PG dC [.int .u64 x,.int .i64 n] [.c (.int .u64)] K h:=by
 refine wI x n ?_;unfold pa;exact⟨(LY _).1,(LY _).1,b⟩
abbrev Q4:=Int×Int×Int×Int
def q4(s:Q4):Array Value:= #[.int .u64 s.1,.int .u64 s.2.1,.int .u64 s.2.2.1,.int .u64 s.2.2.2]
def Tt(a b:Int):Int:=ac .u64 (a+b)
def Sv(s:Q4):Q4:=(Tt s.1 s.2.1,s.2)
def SL(s:Q4):Q4:=(s.1,gD (Mf s.2.1 13) s.1,s.2.2)
def TC(s:Q4):Q4:=(Mf s.1 32,s.2)
def TB(s:Q4):Q4:=(s.1,s.2.1,Tt s.2.2.1 s.2.2.2,s.2.2.2)
def US(s:Q4):Q4:=(s.1,s.2.1,s.2.2.1,gD (Mf s.2.2.2 16) s.2.2.1)
def Vb(s:Q4):Q4:=(Tt s.1 s.2.2.2,s.2)
def VN(s:Q4):Q4:=(s.1,s.2.1,s.2.2.1,gD (Mf s.2.2.2 21) s.1)
def V4(s:Q4):Q4:=(s.1,s.2.1,Tt s.2.2.1 s.2.1,s.2.2.2)
def s09(s:Q4):Q4:=(s.1,gD (Mf s.2.1 17) s.2.2.1,s.2.2)
def V3(s:Q4):Q4:=(s.1,s.2.1,Mf s.2.2.1 32,s.2.2.2)
def Me(s:Q4):Q4:=V3 (s09 (V4 (VN (Vb (US (TB (TC (SL (Sv s)))))))))
def ql:Nat→Q4→Q4
 |0,s=>s
 |n+1,s=>ql n (Me s)
theorem rF{h:af}{b i:Nat}{t:TypeId}{s s':Q4}{v:Value}{k:af→Prop}(f:h[b]? =some (.cells (q4 s) t (0,0))) (e:(q4 s).setIfInBounds i v=q4 s')
  (g:∀c,c[b]? =some (.cells (q4 s') t (0,0))→Upd (· =b) h c→k c):At (hset h ⟨b,i,none⟩ v) k:=
 Bv f fun c d j=>g c (e▸d) j
theorem HT{n:Nat}(hn:n≤100){h:af}{b:Nat}{t:TypeId}{s:Q4}(D:h[b]? =some (.cells (q4 s) t (0,0))) {K:Unit→af→Prop}
  (Q:∀v,v[b]? =some (.cells (q4 (ql n s)) t (0,0))→Upd (· =b) h v→K () v):HC PG jv [.pointer (some ⟨b,0,none⟩),.int .i64 n] [] K h:=by
 refine BA _ _ ?_;unfold u0 aW cp cu Fb;refine LoopP.ghost (fun(g:Nat×Q4) (R:Int) v=>R=(g.1:Int)∧g.1≤n∧v[b]? =some (.cells (q4 g.2) t (0,0))∧Upd (· =b) h v∧ql (n-g.1) g.2=ql n s) (fun g=>n-g.1) (0,s) ⟨rfl,bJ _,D,Upd.refl _ _,rfl⟩ ?_
 rintro I ⟨i,e⟩ R v ⟨P,hi,d,S,z⟩ V;simp only at P hi d z;subst P;refine av (fun y=>?_) fun T=>?_
 ·have y:i<n:=by omega
  have c:∀{h:af} {s:Q4} {i:Nat},h[b]? =some (.cells (q4 s) t (0,0))→bj h ⟨b,0+i,none⟩=(q4 s)[i]?:=fun D=>by rw[bi];exact bP D
  have w:∀{h:af} {s:Q4} {i:Nat},h[b]? =some (.cells (q4 s) t (0,0))→i<4→Wr h ⟨b,0+i,none⟩:=fun D hi=>by rw[bi];exact gI D hi
  simp only[show((0:Int)).toNat*1=0 from rfl,show((1:Int)).toNat*1=1 from rfl,show((2:Int)).toNat*1=2 from rfl,show((3:Int)).toNat*1=3 from rfl]
  refine⟨_,rfl,by decide,_,c (i:=0) d,_,rfl,by decide,_,c (i:=1) d,_,rfl,by decide,w (i:=0) d (by decide),rF (s':=Sv e) d rfl fun h2 k E=>?_⟩
  refine⟨_,rfl,by decide,_,c (i:=1) k,_,rfl,by decide,_,c (i:=0) k,_,rfl,C8 ⟨c (i:=0) k,by decide,w (i:=1) k (by decide),rF (s':=SL (Sv e)) k rfl fun Y x H=>?_⟩⟩
  refine⟨_,rfl,by decide,_,c (i:=0) x,_,rfl,C8 ⟨by decide,w (i:=0) x (by decide),rF (s':=TC (SL (Sv e))) x rfl fun h4 p F=>?_⟩⟩
  refine⟨_,rfl,by decide,_,c (i:=2) p,_,rfl,by decide,_,c (i:=3) p,_,rfl,by decide,w (i:=2) p (by decide),rF (s':=TB (TC (SL (Sv e)))) p rfl fun X m L=>?_⟩
  refine⟨_,rfl,by decide,_,c (i:=3) m,_,rfl,by decide,_,c (i:=2) m,_,rfl,C8 ⟨c (i:=2) m,by decide,w (i:=3) m (by decide),rF (s':=US (TB (TC (SL (Sv e))))) m rfl fun Z q J=>?_⟩⟩
  refine⟨_,rfl,by decide,_,c (i:=0) q,_,rfl,by decide,_,c (i:=3) q,_,rfl,by decide,w (i:=0) q (by decide),rF (s':=Vb (US (TB (TC (SL (Sv e)))))) q rfl fun h7 f G=>?_⟩
  refine⟨_,rfl,by decide,_,c (i:=3) f,_,rfl,by decide,_,c (i:=0) f,_,rfl,C8 ⟨c (i:=0) f,by decide,w (i:=3) f (by decide),rF (s':=VN (Vb (US (TB (TC (SL (Sv e))))))) f rfl fun h8 u O=>?_⟩⟩
  refine⟨_,rfl,by decide,_,c (i:=2) u,_,rfl,by decide,_,c (i:=1) u,_,rfl,by decide,w (i:=2) u (by decide),rF (s':=V4 (VN (Vb (US (TB (TC (SL (Sv e)))))))) u rfl fun h9 o N=>?_⟩
  refine⟨_,rfl,by decide,_,c (i:=1) o,_,rfl,by decide,_,c (i:=2) o,_,rfl,C8 ⟨c (i:=2) o,by decide,w (i:=1) o (by decide),rF (s':=s09 (V4 (VN (Vb (US (TB (TC (SL (Sv e))))))))) o rfl fun U j B=>?_⟩⟩
  refine⟨_,rfl,by decide,_,c (i:=2) j,_,rfl,C8 ⟨by decide,w (i:=2) j (by decide),rF (s':=Me e) j rfl fun W A C=>?_⟩⟩
  rw[rt y (by omega)];refine V (i+1,Me e) _ _ ⟨rfl,y,A,S.tr (E.tr (H.tr (F.tr (L.tr (J.tr (G.tr (O.tr (N.tr (B.tr C))))))))),?_⟩ (by simp only;omega);simp only;rw[←z,show n-i=(n-(i+1))+1 by omega];rfl
 ·obtain rfl:i=n:=by omega
  rw[dJ]at z;have z:e=ql i s:=z;rw[←z]at Q;exact Q _ d S
end Go.Proofs
namespace Go.Proofs
open Go.Lift
def Tn(s:ByteArray)(i:Nat):Int:=match s[i]? with|some b=>(b.toNat:Int)|none=>0
def VM(b:Int)(n:Int):Int:=ac .u64 ((ac .u64 b)*2^(min n.toNat (ai .u64)))
def wj(s:ByteArray):Nat→Int→Int
 |0,t=>t
 |k+1,t=>wj s k (QD t (if k=0 then ac .u64 (Tn s 0)else VM (Tn s k) ((8*k:Nat):Int)))
def DT(s:ByteArray):Int:=wj s s.size 0
theorem vH{s:ByteArray}{i:Nat}(h:i<s.size):∃b,s[i]? =some b∧Tn s i=(b.toNat:Int):=⟨s[i],getElem?_pos s i h,by simp[Tn,getElem?_pos s i h]⟩
theorem NJ{s:ByteArray}(F:s.size≤8){h:af}{K:Int→af→Prop}(j:K (DT s) h):HC PG xH [.string s] [.c (.int .u64)] K h:=by
 refine Nl s ?_;unfold GF;refine Join.intro (fun t g=>g=h∧1≤s.size∧wj s 1 t=wj s s.size 0) (fun R1 n=>?_) ?_
 ·refine Join.intro (fun t g=>g=h∧2≤s.size∧wj s 2 t=wj s s.size 0) (fun R2 m=>?_) ?_
  ·refine Join.intro (fun t g=>g=h∧3≤s.size∧wj s 3 t=wj s s.size 0) (fun G q=>?_) ?_
   ·refine Join.intro (fun t g=>g=h∧4≤s.size∧wj s 4 t=wj s s.size 0) (fun R4 k=>?_) ?_
    ·refine Join.intro (fun t g=>g=h∧5≤s.size∧wj s 5 t=wj s s.size 0) (fun P u=>?_) ?_
     ·refine Join.intro (fun t g=>g=h∧6≤s.size∧wj s 6 t=wj s s.size 0) (fun I p=>?_) ?_
      ·refine Join.intro (fun t g=>g=h∧7≤s.size∧wj s 7 t=wj s s.size 0) (fun R7 o=>?_) ?_
       ·refine CondP.intro (fun e=>?_) fun C=>?_
        ·have e:s.size=8:=by have:=of_decide_eq_true (by simpa using e:decide ((s.size:Int)=8)=true);omega
         obtain⟨b,c,hv⟩:=vH (s:=s) (i:=7) (by omega);refine⟨b,by decide,c,by decide,o _ _ ⟨rfl,by omega,?_⟩⟩
         rw[e,←hv];rfl
        refine CondP.intro (fun e=>?_) fun z=>?_
        ·have e:s.size=7:=by have:=of_decide_eq_true (by simpa using e:decide ((s.size:Int)=7)=true);omega
         exact o _ _ ⟨rfl,by omega,by rw[e]⟩
        refine CondP.intro (fun e=>?_) fun v=>?_
        ·have e:s.size=6:=by have:=of_decide_eq_true (by simpa using e:decide ((s.size:Int)=6)=true);omega
         exact p _ _ ⟨rfl,by omega,by rw[e]⟩
        refine CondP.intro (fun e=>?_) fun w=>?_
        ·have e:s.size=5:=by have:=of_decide_eq_true (by simpa using e:decide ((s.size:Int)=5)=true);omega
         exact u _ _ ⟨rfl,by omega,by rw[e]⟩
        refine CondP.intro (fun e=>?_) fun A=>?_
        ·have e:s.size=4:=by have:=of_decide_eq_true (by simpa using e:decide ((s.size:Int)=4)=true);omega
         exact k _ _ ⟨rfl,by omega,by rw[e]⟩
        refine CondP.intro (fun e=>?_) fun B=>?_
        ·have e:s.size=3:=by have:=of_decide_eq_true (by simpa using e:decide ((s.size:Int)=3)=true);omega
         exact q _ _ ⟨rfl,by omega,by rw[e]⟩
        refine CondP.intro (fun e=>?_) fun x=>?_
        ·have e:s.size=2:=by have:=of_decide_eq_true (by simpa using e:decide ((s.size:Int)=2)=true);omega
         exact m _ _ ⟨rfl,by omega,by rw[e]⟩
        refine CondP.intro (fun e=>?_) fun y=>?_
        ·have e:s.size=1:=by have:=of_decide_eq_true (by simpa using e:decide ((s.size:Int)=1)=true);omega
         exact n _ _ ⟨rfl,by omega,by rw[e]⟩
        have e:s.size=0:=by
         have L:¬(s.size:Int)=1:=by simpa using y
         have N:¬(s.size:Int)=2:=by simpa using x
         have D:¬(s.size:Int)=3:=by simpa using B
         have q4:¬(s.size:Int)=4:=by simpa using A
         have O:¬(s.size:Int)=5:=by simpa using w
         have J:¬(s.size:Int)=6:=by simpa using v
         have E:¬(s.size:Int)=7:=by simpa using z
         have H:¬(s.size:Int)=8:=by simpa using C
         omega
        unfold DT at j;rw[e]at j;exact j
       ·rintro t _ ⟨rfl,d,f⟩
        obtain⟨b,c,hv⟩:=vH (s:=s) (i:=6) (by omega);refine⟨b,by decide,c,by decide,p _ _ ⟨rfl,by omega,?_⟩⟩
        rw[←f,←hv];rfl
      ·rintro t _ ⟨rfl,d,f⟩
       obtain⟨b,c,hv⟩:=vH (s:=s) (i:=5) (by omega);refine⟨b,by decide,c,by decide,u _ _ ⟨rfl,by omega,?_⟩⟩
       rw[←f,←hv];rfl
     ·rintro t _ ⟨rfl,d,f⟩
      obtain⟨b,c,hv⟩:=vH (s:=s) (i:=4) (by omega);refine⟨b,by decide,c,by decide,k _ _ ⟨rfl,by omega,?_⟩⟩
      rw[←f,←hv];rfl
    ·rintro t _ ⟨rfl,d,f⟩
     obtain⟨b,c,hv⟩:=vH (s:=s) (i:=3) (by omega);refine⟨b,by decide,c,by decide,q _ _ ⟨rfl,by omega,?_⟩⟩
     rw[←f,←hv];rfl
   ·rintro t _ ⟨rfl,d,f⟩
    obtain⟨b,c,hv⟩:=vH (s:=s) (i:=2) (by omega);refine⟨b,by decide,c,by decide,m _ _ ⟨rfl,by omega,?_⟩⟩
    rw[←f,←hv];rfl
  ·rintro t _ ⟨rfl,d,f⟩
   obtain⟨b,c,hv⟩:=vH (s:=s) (i:=1) (by omega);refine⟨b,by decide,c,by decide,n _ _ ⟨rfl,by omega,?_⟩⟩
   rw[←f,←hv];rfl
 ·rintro t _ ⟨rfl,d,f⟩
  obtain⟨b,c,hv⟩:=vH (s:=s) (i:=0) (by omega);refine⟨b,by decide,c,?_⟩
  unfold DT at j;rw[←f]at j;rw[←hv];exact j
end Go.Proofs
namespace Go.Proofs
open Go.Lift
def Fh(m:Int)(s:Q4):Q4:=
 let r:=ql 2 (s.1,s.2.1,s.2.2.1,gD s.2.2.2 m)
 (gD r.1 m,r.2)
theorem NN{m:Int}{h:af}{b:Nat}{t:TypeId}{s:Q4}(e:h[b]? =some (.cells (q4 s) t (0,0))) {K:Unit→af→Prop}
  (o:∀h',h'[b]? =some (.cells (q4 (Fh m s)) t (0,0))→Upd (· =b) h h'→K () h'):HC PG nP [.pointer (some ⟨b,0,none⟩),.int .u64 m] [] K h:=by
 refine DF _ _ ?_;unfold xn aW cp cu tP;have c:∀{h:af} {s:Q4} {i:Nat},h[b]? =some (.cells (q4 s) t (0,0))→bj h ⟨b,0+i,none⟩=(q4 s)[i]?:=fun e=>by rw[bi];exact bP e
 have w:∀{h:af} {s:Q4} {i:Nat},h[b]? =some (.cells (q4 s) t (0,0))→i<4→Wr h ⟨b,0+i,none⟩:=fun e hi=>by rw[bi];exact gI e hi
 simp only[show((0:Int)).toNat*1=0 from rfl,show((3:Int)).toNat*1=3 from rfl]
 refine⟨_,rfl,by decide,_,c (i:=3) e,_,rfl,by decide,w (i:=3) e (by decide),rF (s':=(s.1,s.2.1,s.2.2.1,gD s.2.2.2 m)) e rfl fun h2 k g=>?_⟩
 refine HT (n:=2) (by omega) k fun u d p=>?_
 have q:Fh m s=(gD (ql 2 (s.1,s.2.1,s.2.2.1,gD s.2.2.2 m)).1 m,(ql 2 (s.1,s.2.1,s.2.2.1,gD s.2.2.2 m)).2):=by unfold Fh;rfl
 rw[q]at o;generalize ql 2 (s.1,s.2.1,s.2.2.1,gD s.2.2.2 m)=r at d o;refine⟨_,rfl,by decide,_,c (i:=0) d,_,rfl,by decide,w (i:=0) d (by decide),rF (s':=(gD r.1 m,r.2)) d rfl fun v f j=>?_⟩
 exact o _ f (g.tr (p.tr j))
def Fj:Nat→ByteArray→Q4→ByteArray×Q4
 |0,s,q=>(s,q)
 |n+1,s,q=>if 8≤s.size then Fj n (s.extract 8 s.size) (Fh (DT (s.extract 0 8)) q)else(s,q)
def VC(r:Q4):Int:=gD (gD (gD r.1 r.2.1) r.2.2.1) r.2.2.2
def VB(q:Q4):Int:=VC (ql 4 (q.1,q.2.1,gD q.2.2.1 255,q.2.2.2))
def VZ(n:Nat)(g:ByteArray×Q4):Int:=VB (Fh (QD (DT g.1) (VM (n:Int) 56)) g.2)
def SJ(k0 k1:Int)(s:ByteArray):Int:=
 VZ s.size (Fj s.size s (gD k0 8317987319222330741,gD k1 7237128888997146477,gD k0 7816392313619706465,gD k1 8387220255154660723))
theorem Ti{d:af}{b:Nat}{t:TypeId}{r:Q4}(g:d[b]? =some (.cells (q4 r) t (0,0))) {K:Int→Prop} (j:K (VC r)):
  (((0:Int)≤(0:Int)∧(0:Int)<((4:Nat):Int))∧
   ∃v30:Int,bj d (adr ⟨b,0,none⟩ ((0:Int).toNat*1))=some (.int .u64 v30)∧
   (((0:Int)≤(1:Int)∧(1:Int)<((4:Nat):Int))∧
    ∃v31:Int,bj d (adr ⟨b,0,none⟩ ((1:Int).toNat*1))=some (.int .u64 v31)∧
    Bd (ac .u64 (ao (ai .u64) v30^^^ao (ai .u64) v31).toNat:Int) (fun n32=>
     (((0:Int)≤(2:Int)∧(2:Int)<((4:Nat):Int))∧
      ∃v33:Int,bj d (adr ⟨b,0,none⟩ ((2:Int).toNat*1))=some (.int .u64 v33)∧
      Bd (ac .u64 (ao (ai .u64) n32^^^ao (ai .u64) v33).toNat:Int) (fun e=>
       (((0:Int)≤(3:Int)∧(3:Int)<((4:Nat):Int))∧
        ∃v35:Int,bj d (adr ⟨b,0,none⟩ ((3:Int).toNat*1))=some (.int .u64 v35)∧
        Bd (ac .u64 (ao (ai .u64) e^^^ao (ai .u64) v35).toNat:Int) (fun f=>
         K f))))))):=by
 have c:∀{i:Nat},bj d ⟨b,0+i,none⟩=(q4 r)[i]?:=by intro i;rw[bi];exact bP g
 exact⟨by decide,_,c (i:=0),by decide,_,c (i:=1),by decide,_,c (i:=2),by decide,_,c (i:=3),j⟩
theorem Th{d:af}{b:Nat}{t:TypeId}{q:Q4}(k:d[b]? =some (.cells (q4 q) t (0,0))) {K:Unit→af→Prop}
  (s:∀h',h'[b]? =some (.cells (q4 (ql 4 (q.1,q.2.1,gD q.2.2.1 255,q.2.2.2))) t (0,0))→Upd (· =b) d h'→K () h'):
  (((0:Int)≤(2:Int)∧(2:Int)<((4:Nat):Int))∧
   ∃v25:Int,bj d (adr ⟨b,0,none⟩ ((2:Int).toNat*1))=some (.int .u64 v25)∧
   Bd (ac .u64 (ao (ai .u64) v25^^^ao (ai .u64) 255).toNat:Int) (fun j=>
    (((0:Int)≤(2:Int)∧(2:Int)<((4:Nat):Int))∧
     (Wr d (adr ⟨b,0,none⟩ ((2:Int).toNat*1))∧
      At (hset d (adr ⟨b,0,none⟩ ((2:Int).toNat*1)) (.int .u64 j)) (fun m=>
       HC PG jv [.pointer (some ⟨b,0,none⟩),.int .i64 4] [] K m))))):=by
 have c:∀{i:Nat},bj d ⟨b,0+i,none⟩=(q4 q)[i]?:=by intro i;rw[bi];exact bP k
 refine⟨by decide,_,c (i:=2),by decide,by rw[show((2:Int)).toNat*1=2 from rfl,dt];exact gI k (by simp[q4]),?_⟩
 refine rF (s':=(q.1,q.2.1,gD q.2.2.1 255,q.2.2.2)) k rfl fun u f o=>?_
 exact HT (n:=4) (by omega) f fun p e g=>s p e (o.tr g)
theorem dx{h:af}{k:af→Prop}(b:k h):At h k:=b
theorem T4{k0 k1:Int}{s:ByteArray}{h:af}{K:Int→af→Prop}(D:∀t,Upd No h t→K (SJ k0 k1 s) t):HC PG Dq [.agg #[.int .u64 k0,.int .u64 k1],.string s] [.c (.int .u64)] K h:=by
 refine Px (k0,k1) s ?_;unfold IH aW cp nv ag cu BL tP Vc UW U3;have u:=Upd.hnew No h [.int .u64 k0,.int .u64 k1] wW;have b1:=c6 h [.int .u64 k0,.int .u64 k1] wW;have J:=gS h [.int .u64 k0,.int .u64 k1] wW;refine dx ?_;simp only[eS h];generalize hnew h [.int .u64 k0,.int .u64 k1] wW=h1 at u b1 J;refine⟨k0,by rw[dt,bP b1];rfl,k1,by rw[dt,bP b1];rfl,k0,by rw[dt,bP b1];rfl,k1,by rw[dt,bP b1];rfl,?_⟩
 have N:=Upd.hnew No h1 [.int .u64 0,.int .u64 0,.int .u64 0,.int .u64 0] j1;have b2:=c6 h1 [.int .u64 0,.int .u64 0,.int .u64 0,.int .u64 0] j1;simp only[eS h1];simp only[Bd];refine dx ?_;refine⟨.inr ⟨_,rfl,fun j H=>by rw[dt];exact gI b2 (by simp at H⊢;omega)⟩,?_⟩
 refine dx ?_;rw[jq _ _ 0 0 _ b2 (by simp)];have b3:=fe (o:=.cells (q4 (gD k0 8317987319222330741,gD k1 7237128888997146477,gD k0 7816392313619706465,gD k1 8387220255154660723)) j1 (0,0)) b2;have F:Upd No h _:=u.tr (N.trans (M':=(· =h1.size)) (Upd.set (hnew h1 [.int .u64 0,.int .u64 0,.int .u64 0,.int .u64 0] j1) (.cells (q4 (gD k0 8317987319222330741,gD k1 7237128888997146477,gD k0 7816392313619706465,gD k1 8387220255154660723)) j1 (0,0)) rfl) fun b e=>.inr (Nat.le_of_eq e.symm))
 refine LoopP.ghost (fun(g:Nat×Q4) (d:ByteArray) t=>d.size≤g.1∧t[h1.size]? =some (.cells (q4 g.2) j1 (0,0))∧Upd No h t∧Fj g.1 d g.2=Fj s.size s (gD k0 8317987319222330741,gD k1 7237128888997146477,gD k0 7816392313619706465,gD k1 8387220255154660723)) (fun g=>g.1) (s.size,_)
  ⟨aq _,b3,F,rfl⟩ ?_
 rintro I ⟨n,q⟩ d t ⟨G,e,E,x⟩ L;simp only at G e x;have p:∀b,b=h1.size→No b∨h.size≤b:=fun b e=>.inr (by omega)
 refine av (fun v=>?_) fun B=>?_
 ·have v:8≤d.size:=by omega
  cases n with
  |zero=>omega
  |succ n=>
   refine⟨by omega,NJ (by rw[ByteArray.size_extract];show min 8 _-0≤8;omega) (NN e fun h2 f k=>⟨by omega,?_⟩)⟩
   have O:((8:Int)).toNat=8:=rfl;rw[O]at f⊢;refine L (n,Fh (DT (d.extract 0 8)) q) _ _ ⟨by simp only[ByteArray.size_extract];omega,f,E.trans k p,?_⟩ (by simp only;omega);rw[←x];simp only[Fj,if_pos v]
 ·have B:d.size<8:=by omega
  have x:(d,q)=Fj s.size s (gD k0 8317987319222330741,gD k1 7237128888997146477,gD k0 7816392313619706465,gD k1 8387220255154660723):=by
   rw[←x];cases n with
   |zero=>rfl
   |succ n=>simp only[Fj,if_neg (show ¬8≤d.size by omega)]
  have c:∀{h:af} {s:Q4} {i:Nat},h[h1.size]? =some (.cells (q4 s) j1 (0,0))→bj h ⟨h1.size,0+i,none⟩=(q4 s)[i]?:=fun e=>by rw[bi];exact bP e
  have w:∀{h:af} {s:Q4} {i:Nat},h[h1.size]? =some (.cells (q4 s) j1 (0,0))→i<4→Wr h ⟨h1.size,0+i,none⟩:=fun e hi=>by rw[bi];exact gI e hi
  have A:SJ k0 k1 s=VB (Fh (QD (DT d) (VM (s.size:Int) 56)) q):=by unfold SJ;rw[←x];rfl
  rw[A]at D;refine NJ (by omega) ⟨by decide,NN (m:=QD (DT d) (VM (s.size:Int) 56)) e fun h2 f k=>?_⟩
  refine Th f fun C y z=>Ti (K:=fun n=>K n C) y ?_
  exact D C ((E.trans k p).trans z p)
structure Hs where
 k0:Int
 k1:Int
 mask:Int
def j5(h:Hs)(s:ByteArray):Int:=Sd (SJ h.k0 h.k1 s) h.mask
theorem Tb{x:Hs}{s:ByteArray}{h:af}{K:Int→af→Prop}(d:∀h',Upd No h h'→K (j5 x s) h'):HC PG qu [.agg #[.int .u64 x.k0,.int .u64 x.k1,.int .u64 x.mask],.string s] [.c (.int .u64)] K h:=by
 refine Cx (x.k0,x.k1,x.mask) s ?_;unfold vK ag bW H6 U6;have b:=Upd.hnew No h [.int .u64 x.k0,.int .u64 x.k1,.int .u64 x.mask] gi;have b1:=c6 h [.int .u64 x.k0,.int .u64 x.k1,.int .u64 x.mask] gi;simp only[At,eS h];generalize hnew h [.int .u64 x.k0,.int .u64 x.k1,.int .u64 x.mask] gi=h1 at b b1;refine⟨x.k0,by rw[dt,dt,bP b1];rfl,x.k1,by rw[dt,dt,bP b1];rfl,x.mask,by rw[dt,bP b1];rfl,?_⟩
 refine T4 fun h2 c=>⟨by rw[dt,bP (c.get0 b1)];rfl,d _ (b.tr c)⟩
theorem Lf(x:Hs)(s:ByteArray):0≤j5 x s∧j5 x s<18446744073709551616:=LY _
end Go.Proofs
namespace Go.Proofs
open Go Go.Lift
abbrev ga(x:ByteArray×ByteArray):List Value:= [.string x.1,.string x.2]
theorem oo(x:ByteArray×ByteArray):(ga x).length=2∧0<2:=⟨rfl,by omega⟩
theorem zT:∀xs:List (ByteArray×ByteArray),cI (xs.flatMap ga)=true
 | []=>rfl
 |x::xs=>by rw[cy];exact nO rfl (zT xs)
theorem Jk{h:af}{c b o d e f cb:Nat}{g cw:Array Value}{j tb:TypeId}(hv:h[c]? =some (.cells g j (0,0))) (m:h[b]? =some (.cells cw tb (0,0))) (p:c≠b) (k:cw.size≠0) {K:Bool→af→Prop} (n:K false h):
  HC PG jd [.slice (some ⟨c,0,none⟩) d e,.slice (some ⟨b,o,none⟩) f cb] [.c .bool] K h:=by
 refine⟨fun w i=>.inr ⟨.bool false,w,?_,Tame.refl w,false,rfl,i▸n⟩⟩
 subst i;rw[ud];have:=Lib.run_overlaps_apart (P:=PG) w jf C4 ay (by kernel_rfl) (cf PG ay) (vy (by kernel_rfl)) ⟨c,0,none⟩ ⟨b,o,none⟩ d e f cb p j tb g.size cw.size
  (by simp[World.shape?,hv]) (by simp[World.shape?,m]) k (by simp[World.frozen?,hv]) (by simp[World.frozen?,hv])
 rw[show([Value.slice (some ⟨c,0,none⟩) d e,Value.slice (some ⟨b,o,none⟩) f cb]:List Value).toArray= #[.slice (some ⟨c,0,none⟩) d e,.slice (some ⟨b,o,none⟩) f cb]from rfl,this]
 rfl
set_option maxRecDepth 4000 in
theorem MU{M:Nat→Prop}{h:af}{s:SliceV}{xs:List (ByteArray×ByteArray)}(U:OwnS ga 2 ay M h s xs){k:Nat}(hkl:k≤xs.length)(hn:(xs.length+1)*32≤140737488355328){x:ByteArray×ByteArray}{n:Nat}(hv:h[n]? =some (.cells (ga x).toArray ay (0,0)))
  (hvM:¬M n) (hM:∀b,h.size≤b→M b) {K:SliceV→af→Prop} (hK:∀s' N,OwnS ga 2 ay M N s' (xs.take k++x::xs.drop k)→Upd M h N→K s' N):
  HC PG dh [.slice s.a s.len s.cap,.int .i64 k,.slice (some ⟨n,0,none⟩) 1 1] [.c .slice] K h:=by
 refine nW s k ⟨some ⟨n,0,none⟩,1,1⟩ ?_;unfold iG oG;have u:=U.len;have hcap:=U.cap;have G:SRow h (some ⟨n,0,none⟩) (1*2) (ga x):=⟨rfl,.inr ⟨_,rfl,zP hv fun i v hi=>by simpa using hi⟩⟩
 refine⟨by omega,aH.2 ?_⟩;refine CondP.intro (fun e=>?_) fun e=>?_
 ·have e:k=xs.length:=by have:=of_decide_eq_true (by simpa using e:decide ((k:Int)=(s.len:Int))=true);omega
  subst e;refine⟨_,G,AppP.own (ys:= [x]) U rfl (by simp) rfl rfl (by omega) (by simp;omega) (hM _ (aq _)) fun s' N ho hu=>hK s' N ?_ hu⟩
  rw[gZ,List.drop_length];exact ho
 have hlt:k<xs.length:=by
  rcases eD k xs.length with h|h
  ·exact h
  ·have:((k:Int)==(s.len:Int))=true:=by rw[beq_iff_eq];omega
   rw[this]at e;cases e
 rcases U.blk with h0|⟨b,m,ha,w,hc,hr⟩
 ·omega
 have j:((xs.take k).flatMap ga).length=k*2:=by rw[qG oo,aO,cC hkl]
 have o:((xs.drop k).flatMap ga).length=(xs.length-k)*2:=by rw[qG oo,aP]
 have J:n≠b:=fun e=>hvM (e▸w)
 rw[F8 (f:=ga) xs k]at hc;have c:(xs.take k++x::xs.drop k).flatMap ga=(xs.take k).flatMap ga++(ga x++(xs.drop k).flatMap ga):=by rw[cX,cy]
 have g:=zT (xs.drop k);have d:(ga x).length=2:=rfl;have C:cI (ga x)=true:=rfl;generalize hAe:(xs.take k).flatMap ga=A at j hc c;generalize hBe:(xs.drop k).flatMap ga=B at o hc c g;generalize ga x=X at G d hv c C;rw[ha];have w1:ac .i64 ((xs.length:Int)+((1:Nat):Int))=((xs.length+1:Nat):Int):=by rw[dW (by omega)];omega
 have w2:ac .i64 ((k:Int)+((1:Nat):Int))=((k+1:Nat):Int):=by rw[dW (by omega)];omega
 have w3:ac .i64 (((xs.length+1:Nat):Int)-(k:Int))=((xs.length+1-k:Nat):Int):=by rw[dW (by omega)];omega
 simp only[w1,w2,w3,bN,u];refine av (fun hgt=>?_) fun hle=>?_
 ·
  have F:s.cap=xs.length:=by omega
  refine Join.plain ⟨by omega,⟨by omega,by omega,by omega,by omega⟩,fun hin=>?_,fun Q=>?_⟩
  ·omega
  ·refine⟨A,_,?_,rfl,by omega,Go.growslice_fits Q (by omega),fun E y=>?_⟩
   ·rw[sub_zero]
    exact sQ hc (by rw[j];omega) (by simp only[dH,eX];rw[aF,←j,iw (aq _),gZ])
   ·simp only[bN]at y⊢
    have V:=Upd.hnew No h (A++eM (xs.length+1-k) [.string (⟨#[]⟩:ByteArray),.string (⟨#[]⟩:ByteArray)]++eM (E-(k-0+(xs.length+1-k))) [.string (⟨#[]⟩:ByteArray),.string (⟨#[]⟩:ByteArray)]) ay;have bn:=c6 h (A++eM (xs.length+1-k) [.string (⟨#[]⟩:ByteArray),.string (⟨#[]⟩:ByteArray)]++eM (E-(k-0+(xs.length+1-k))) [.string (⟨#[]⟩:ByteArray),.string (⟨#[]⟩:ByteArray)]) ay
    have z:(eM (xs.length+1-k) [.string (⟨#[]⟩:ByteArray),.string (⟨#[]⟩:ByteArray)]).length=(xs.length+1-k)*2:=sn _ _;have W:(eM (E-(k-0+(xs.length+1-k))) [.string (⟨#[]⟩:ByteArray),.string (⟨#[]⟩:ByteArray)]).length=(E-(k-0+(xs.length+1-k)))*2:=sn _ _;have p:k-0+(xs.length+1-k)=xs.length+1:=by omega
    rw[eS];have hsz:h.size≠n:=fun e=>by have:=bo hv;omega
    have L:h.size≠b:=fun e=>by have:=bo hc;omega
    have T:=V.get0 hc;have O:=V.get0 hv;generalize hnew h _ ay=h9 at V bn T O;rw[p]at y W⊢;have m1:f9 1 (xs.length+1-k)=1:=cC (by omega);have m2:f9 (xs.length-k) (xs.length+1-(k+1))=xs.length-k:=cC (by omega);rw[m1];have xr9:SRow h9 (some ⟨n,0,none⟩) (1*2) X:=sQ O (by rw[d]) (by rw[dH,bL];rw[d];omega)
    refine⟨by omega,?_⟩;rw[qk (by omega)];refine sF xr9 C bn (by simp only[ae,j,z];omega) fun h11 I t=>⟨by omega,?_⟩
    simp only[Bd];rw[qk (by omega),qk (by omega),m2];refine⟨by omega,?_⟩;have D:=t.get T (fun e=>L e.symm)
    have br:SRow h11 (some ⟨b,0+k*2,none⟩) ((xs.length-k)*2) B:=sQ D o (by
     rw[bi,aF,←j,lu,←o,lm])
    refine sF br g I ?_ fun h16 H S=>?_
    ·simp only[ae,aO,aP,j,z,d];omega
    ·refine hK _ _ ⟨by simp;omega,oo,y,.inr ⟨h.size,eM (E-(xs.length+1)) [.string (⟨#[]⟩:ByteArray),.string (⟨#[]⟩:ByteArray)],rfl,hM _ (aq _),?_,by rw[sn];rfl⟩⟩ ((V.wide.trans (M':=(· =h.size)) t fun b w=>.inl (w▸hM _ (aq _))).trans (M':=(· =h.size)) S fun b w=>.inl (w▸hM _ (aq _)))
     rw[H,c];have:=N6 (A:=A) (X:=X) (B:=B) (Z1:=eM (xs.length+1-k) [.string (⟨#[]⟩:ByteArray),.string (⟨#[]⟩:ByteArray)]) (Z2:=eM (E-(xs.length+1)) [.string (⟨#[]⟩:ByteArray),.string (⟨#[]⟩:ByteArray)]) (r:=(xs.length-k)*2) j d (by rw[z,←mq];congr 1;omega);rw[p,←this];simp only[bi,mq,vV]
 ·have F:xs.length+1≤s.cap:=by omega
  refine⟨by omega,?_⟩;simp only[Bd,eX];rw[sub_zero,qk (show s.cap≠k+1 by omega),qk (show s.cap≠k by omega)]
  refine⟨by omega,?_⟩;have hrl:2≤m.length:=by rw[hr];exact Nat.le_mul_of_pos_left _ (by omega)
  refine Jk hv hc J (by rw[dE,ae];omega) ?_;refine aX.2 ⟨by omega,by omega,?_⟩
  have m1:f9 1 (xs.length+1-k)=1:=cC (by omega);have m2:f9 (xs.length+1-k) (xs.length+1-(k+1))=xs.length-k:=by
   rw[show xs.length+1-(k+1)=xs.length-k by omega];exact Nat.min_eq_right (by omega)
  rw[m2];have br:SRow h (some ⟨b,0+k*2,none⟩) ((xs.length-k)*2) B:=sQ hc o (by
   rw[bi,aF,←j,lu,←o,lm])
  refine sF br g hc (by simp only[ae,j,o];omega) fun h1 Y P=>⟨by omega,?_⟩
  rw[m1];have xr1:SRow h1 (some ⟨n,0,none⟩) (1*2) X:=sQ (P.get hv J) (by rw[d]) (by rw[dH,bL];rw[d];omega);refine sF xr1 C Y (by simp only[ae,aO,aP,j,o];omega) fun h2 hb2 Z=>?_
  refine hK _ _ ⟨by simp;omega,oo,F,.inr ⟨b,m.drop 2,rfl,w,?_,?_⟩⟩ ((P.mono fun _ e=>.inl (e▸w)).tr (Z.mono fun _ e=>.inl (e▸w)))
  ·rw[hb2,c]
   have:=QU (A:=A) (X:=X) (B:=B) (R:=m) (q:=2) (r:=(xs.length-k)*2) j o hrl;rw[←this];simp only[bi,mq,vV]
  ·rw[aP,hr]
   simp only;rw[u];omega
abbrev vx(x:Option Addr):List Value:= [.pointer x]
theorem uv(x:Option Addr):(vx x).length=1∧0<1:=⟨rfl,by omega⟩
theorem ES:∀xs:List (Option Addr),cI (xs.flatMap vx)=true
 | []=>rfl
 |x::xs=>by rw[cy];exact nO rfl (ES xs)
theorem Jl{h:af}{c b o d e f cb:Nat}{g cw:Array Value}{j tb:TypeId}(hv:h[c]? =some (.cells g j (0,0))) (m:h[b]? =some (.cells cw tb (0,0))) (p:c≠b) (k:cw.size≠0) {K:Bool→af→Prop} (n:K false h):
  HC PG ir [.slice (some ⟨c,0,none⟩) d e,.slice (some ⟨b,o,none⟩) f cb] [.c .bool] K h:=by
 refine⟨fun w i=>.inr ⟨.bool false,w,?_,Tame.refl w,false,rfl,i▸n⟩⟩
 subst i;rw[sG];have:=Lib.run_overlaps_apart (P:=PG) w sP C4 bS (by kernel_rfl) (cf PG bS) (vy (by kernel_rfl)) ⟨c,0,none⟩ ⟨b,o,none⟩ d e f cb p j tb g.size cw.size
  (by simp[World.shape?,hv]) (by simp[World.shape?,m]) k (by simp[World.frozen?,hv]) (by simp[World.frozen?,hv])
 rw[show([Value.slice (some ⟨c,0,none⟩) d e,Value.slice (some ⟨b,o,none⟩) f cb]:List Value).toArray= #[.slice (some ⟨c,0,none⟩) d e,.slice (some ⟨b,o,none⟩) f cb]from rfl,this]
 rfl
set_option maxRecDepth 4000 in
theorem MV{M:Nat→Prop}{h:af}{s:SliceV}{xs:List (Option Addr)}(U:OwnS vx 1 bS M h s xs){k:Nat}(hkl:k≤xs.length)(hn:(xs.length+1)*8≤140737488355328){x:Option Addr}{n:Nat}(hv:h[n]? =some (.cells (vx x).toArray bS (0,0)))
  (hvM:¬M n) (hM:∀b,h.size≤b→M b) {K:SliceV→af→Prop} (hK:∀s' N,OwnS vx 1 bS M N s' (xs.take k++x::xs.drop k)→Upd M h N→K s' N):
  HC PG cQ [.slice s.a s.len s.cap,.int .i64 k,.slice (some ⟨n,0,none⟩) 1 1] [.c .slice] K h:=by
 refine ma s k ⟨some ⟨n,0,none⟩,1,1⟩ ?_;unfold gF;have u:=U.len;have hcap:=U.cap;have G:SRow h (some ⟨n,0,none⟩) (1*1) (vx x):=⟨rfl,.inr ⟨_,rfl,zP hv fun i v hi=>by simpa using hi⟩⟩
 refine⟨by omega,aH.2 ?_⟩;refine CondP.intro (fun e=>?_) fun e=>?_
 ·have e:k=xs.length:=by have:=of_decide_eq_true (by simpa using e:decide ((k:Int)=(s.len:Int))=true);omega
  subst e;refine⟨_,G,AppP.own (ys:= [x]) U rfl (by simp) rfl rfl (by omega) (by simp;omega) (hM _ (aq _)) fun s' N ho hu=>hK s' N ?_ hu⟩
  rw[gZ,List.drop_length];exact ho
 have hlt:k<xs.length:=by
  rcases eD k xs.length with h|h
  ·exact h
  ·have:((k:Int)==(s.len:Int))=true:=by rw[beq_iff_eq];omega
   rw[this]at e;cases e
 rcases U.blk with h0|⟨b,m,ha,w,hc,hr⟩
 ·omega
 have j:((xs.take k).flatMap vx).length=k*1:=by rw[qG uv,aO,cC hkl]
 have o:((xs.drop k).flatMap vx).length=(xs.length-k)*1:=by rw[qG uv,aP]
 have J:n≠b:=fun e=>hvM (e▸w)
 rw[F8 (f:=vx) xs k]at hc;have c:(xs.take k++x::xs.drop k).flatMap vx=(xs.take k).flatMap vx++(vx x++(xs.drop k).flatMap vx):=by rw[cX,cy]
 have g:=ES (xs.drop k);have d:(vx x).length=1:=rfl;have C:cI (vx x)=true:=rfl;generalize hAe:(xs.take k).flatMap vx=A at j hc c;generalize hBe:(xs.drop k).flatMap vx=B at o hc c g;generalize vx x=X at G d hv c C;rw[ha];have w1:ac .i64 ((xs.length:Int)+((1:Nat):Int))=((xs.length+1:Nat):Int):=by rw[dW (by omega)];omega
 have w2:ac .i64 ((k:Int)+((1:Nat):Int))=((k+1:Nat):Int):=by rw[dW (by omega)];omega
 have w3:ac .i64 (((xs.length+1:Nat):Int)-(k:Int))=((xs.length+1-k:Nat):Int):=by rw[dW (by omega)];omega
 simp only[w1,w2,w3,bN,u];refine av (fun hgt=>?_) fun hle=>?_
 ·
  have F:s.cap=xs.length:=by omega
  refine Join.plain ⟨by omega,⟨by omega,by omega,by omega,by omega⟩,fun hin=>?_,fun Q=>?_⟩
  ·omega
  ·refine⟨A,_,?_,rfl,by omega,Go.growslice_fits Q (by omega),fun E y=>?_⟩
   ·rw[sub_zero]
    exact sQ hc (by rw[j];omega) (by simp only[dH,eX];rw[aF,←j,iw (aq _),gZ])
   ·simp only[bN]at y⊢
    have V:=Upd.hnew No h (A++eM (xs.length+1-k) [.pointer none]++eM (E-(k-0+(xs.length+1-k))) [.pointer none]) bS;have bn:=c6 h (A++eM (xs.length+1-k) [.pointer none]++eM (E-(k-0+(xs.length+1-k))) [.pointer none]) bS;have z:(eM (xs.length+1-k) [.pointer none]).length=(xs.length+1-k)*1:=sn _ _;have W:(eM (E-(k-0+(xs.length+1-k))) [.pointer none]).length=(E-(k-0+(xs.length+1-k)))*1:=sn _ _
    have p:k-0+(xs.length+1-k)=xs.length+1:=by omega
    rw[eS];have hsz:h.size≠n:=fun e=>by have:=bo hv;omega
    have L:h.size≠b:=fun e=>by have:=bo hc;omega
    have T:=V.get0 hc;have O:=V.get0 hv;generalize hnew h _ bS=h9 at V bn T O;rw[p]at y W⊢;have m1:f9 1 (xs.length+1-k)=1:=cC (by omega);have m2:f9 (xs.length-k) (xs.length+1-(k+1))=xs.length-k:=cC (by omega);rw[m1];have xr9:SRow h9 (some ⟨n,0,none⟩) (1*1) X:=sQ O (by rw[d]) (by rw[dH,bL];rw[d];omega)
    refine⟨by omega,?_⟩;rw[qk (by omega)];refine sF xr9 C bn (by simp only[ae,j,z];omega) fun h11 I t=>⟨by omega,?_⟩
    simp only[Bd];rw[qk (by omega),qk (by omega),m2];refine⟨by omega,?_⟩;have D:=t.get T (fun e=>L e.symm)
    have br:SRow h11 (some ⟨b,0+k*1,none⟩) ((xs.length-k)*1) B:=sQ D o (by
     rw[bi,aF,←j,lu,←o,lm])
    refine sF br g I ?_ fun h16 H S=>?_
    ·simp only[ae,aO,aP,j,z,d];omega
    ·refine hK _ _ ⟨by simp;omega,uv,y,.inr ⟨h.size,eM (E-(xs.length+1)) [.pointer none],rfl,hM _ (aq _),?_,by rw[sn];rfl⟩⟩ ((V.wide.trans (M':=(· =h.size)) t fun b w=>.inl (w▸hM _ (aq _))).trans (M':=(· =h.size)) S fun b w=>.inl (w▸hM _ (aq _)))
     rw[H,c];have:=N6 (A:=A) (X:=X) (B:=B) (Z1:=eM (xs.length+1-k) [.pointer none]) (Z2:=eM (E-(xs.length+1)) [.pointer none]) (r:=(xs.length-k)*1) j d (by rw[z,←mq];congr 1;omega);rw[p,←this];simp only[bi,mq,vV]
 ·have F:xs.length+1≤s.cap:=by omega
  refine⟨by omega,?_⟩;simp only[Bd,eX];rw[sub_zero,qk (show s.cap≠k+1 by omega),qk (show s.cap≠k by omega)]
  refine⟨by omega,?_⟩;have hrl:1≤m.length:=by rw[hr];exact Nat.le_mul_of_pos_left _ (by omega)
  refine Jl hv hc J (by rw[dE,ae];omega) ?_;refine aX.2 ⟨by omega,by omega,?_⟩
  have m1:f9 1 (xs.length+1-k)=1:=cC (by omega);have m2:f9 (xs.length+1-k) (xs.length+1-(k+1))=xs.length-k:=by
   rw[show xs.length+1-(k+1)=xs.length-k by omega];exact Nat.min_eq_right (by omega)
  rw[m2];have br:SRow h (some ⟨b,0+k*1,none⟩) ((xs.length-k)*1) B:=sQ hc o (by
   rw[bi,aF,←j,lu,←o,lm])
  refine sF br g hc (by simp only[ae,j,o];omega) fun h1 Y P=>⟨by omega,?_⟩
  rw[m1];have xr1:SRow h1 (some ⟨n,0,none⟩) (1*1) X:=sQ (P.get hv J) (by rw[d]) (by rw[dH,bL];rw[d];omega);refine sF xr1 C Y (by simp only[ae,aO,aP,j,o];omega) fun h2 hb2 Z=>?_
  refine hK _ _ ⟨by simp;omega,uv,F,.inr ⟨b,m.drop 1,rfl,w,?_,?_⟩⟩ ((P.mono fun _ e=>.inl (e▸w)).tr (Z.mono fun _ e=>.inl (e▸w)))
  ·rw[hb2,c]
   have:=QU (A:=A) (X:=X) (B:=B) (R:=m) (q:=1) (r:=(xs.length-k)*1) j o hrl;rw[←this];simp only[bi,mq,vV]
  ·rw[aP,hr]
   simp only;rw[u];omega
abbrev PO(x:Option Addr):List Value:= [.pointer x]
theorem IY(x:Option Addr):(PO x).length=1∧0<1:=⟨rfl,by omega⟩
end Go.Proofs
namespace Go.Proofs
open Go Go.Lift
theorem Dv{W:Nat→Prop}{h:af}{s:SliceV}{xs:List (ByteArray×ByteArray)}(e:Sl ga 2 W h s xs)(m:xs.length*32≤140737488355328){K:SliceV→af→Prop}
  (i:∀s' c,OwnS ga 2 ay (fun b=>h.size≤b) c s' xs→Upd No h c→K s' c):HC PG dZ [.slice s.a s.len s.cap] [.c .slice] K h:=by
 refine oB s ?_;unfold ja oG;refine CondP.intro (fun d=>?_) (fun n=>?_)
 ·have d:s.a=none:=by simpa using d
  have hx:xs= []:=by
   by_cases hx:xs= []
   ·exact hx
   ·obtain⟨a,g,_⟩:=e.row hx
    rw[d]at g;cases g
  subst hx;exact i _ _ (OwnS.nil oo) (Upd.refl _ _)
 ·have h2:=e.upd (Upd.hnew No h [] ay) (fun _ h=>h.elim)
  refine⟨_,h2.srow,?_⟩;refine AppP.own (f:=ga) (M:=fun b=>h.size≤b) (xs:= []) (ys:=xs) ⟨rfl,oo,aq _,.inl rfl⟩ e.len rfl (zT xs) rfl (by omega) (by simpa using m) (by rw[gS];omega) fun s' c j o=>?_
  exact i _ _ j ((Upd.hnew No h [] ay).trans o fun b k=>.inr k)
theorem M0{M:Nat→Prop}{h:af}{s:SliceV}{xs:List (ByteArray×ByteArray)}(v:OwnS ga 2 ay M h s xs){k:Nat}(w:k<xs.length)(Q:xs.length≤4398046511104)
  {K:SliceV→af→Prop}(J:∀s' h',OwnS ga 2 ay M h' s' (xs.take k++xs.drop (k+1))→Upd M h h'→K s' h'):
  HC PG fw [.slice s.a s.len s.cap,.int .i64 k,.int .i64 ((k+1:Nat):Int)] [.c .slice] K h:=by
 refine nX s k ((k+1:Nat):Int) ?_;unfold iI oG;have g:=v.len;have E:=v.cap;rcases v.blk with O|⟨b,c,L,z,hc,G⟩
 ·omega
 have q:((xs.take k).flatMap ga).length=k*2:=by rw[qG oo,aO,cC (by omega)]
 have n:((xs.drop (k+1)).flatMap ga).length=(xs.length-(k+1))*2:=by rw[qG oo,aP]
 have I:xs.flatMap ga=(xs.take k).flatMap ga++(ga xs[k]++(xs.drop (k+1)).flatMap ga):=by
  rw[←cy,←dL w];exact F8 xs k
 rw[I]at hc;have f:=zT (xs.drop (k+1));have d:(xs.take k++xs.drop (k+1)).flatMap ga=(xs.take k).flatMap ga++(xs.drop (k+1)).flatMap ga:=cX;have F:(ga xs[k]).length=2:=rfl;generalize (xs.take k).flatMap ga=A at q hc d;generalize (xs.drop (k+1)).flatMap ga=B at n hc f d;generalize ga xs[k]=X at F hc;rw[L];simp only[g,bN];refine⟨by omega,by omega,by omega,CondP.intro (fun e=>?_) fun _=>?_⟩
 ·have:(k:Int)=((k+1:Nat):Int):=by simpa using e
  omega
 refine Join.plain ⟨by omega,by omega,B,?_,?_⟩
 ·by_cases m:xs.length=k+1
  ·exact⟨n,.inl (aw.1 (by rw[n,m,dJ,Nat.zero_mul]))⟩
  rw[qk (by omega)];refine sQ hc n ?_;have:(A++X).length=0+(k+1)*2:=by rw[ae];omega
  rw[show A++(X++B)++c=(A++X)++(B++c) by simp only[aF],du this,dM n]
 ·rw[sub_zero]
  refine R0 hc (by simp only[ae];omega) (by omega) f fun P i x=>?_
  have y:c.length=(s.cap-xs.length)*2:=by rw[G,g]
  refine⟨by dsimp only;omega,by dsimp only;omega,?_⟩
  simp only[Bd];rw[qk (by omega)];have H:xs.length-(k-0+(xs.length-(k+1)))=1:=by omega
  have C:(A++(X++B)++c).drop ((k-0)*2+B.length)=(X++B).drop B.length++c:=by
   rw[aF,←cS,du (show A.length=(k-0)*2 by rw[q,eX]),ix (by rw[ae];omega)]
  have t:(A++(X++B)++c).take ((k-0)*2)=A:=by rw[aF,dM (show A.length=(k-0)*2 by rw[q,eX])]
  rw[C,t]at i;have p:((X++B).drop B.length).length=2:=by rw[aP,ae];omega
  generalize (X++B).drop B.length=D at p i;rw[H];have N:(eM 1 [.string (⟨#[]⟩:ByteArray),.string (⟨#[]⟩:ByteArray)]).length=2:=rfl;have j:(A++B).length=0+(k-0+(xs.length-(k+1)))*2:=by rw[ae,q,n];omega
  refine NV i (by simp only[ae]at j⊢;omega) fun h2 o u=>?_
  rw[dM j,←cS,du j]at o;refine J _ _ ⟨by simp;omega,oo,by simp only;omega,.inr ⟨b,eM 1 [.string (⟨#[]⟩:ByteArray),.string (⟨#[]⟩:ByteArray)]++(D++c).drop (eM 1 [.string (⟨#[]⟩:ByteArray),.string (⟨#[]⟩:ByteArray)]).length,rfl,z,?_,?_⟩⟩ ((x.mono fun _ e=>.inl (e▸z)).tr (u.mono fun _ e=>.inl (e▸z)))
  ·rw[o,d];simp only[aF]
  ·simp only[ae,aP,N,p,y]
   omega
theorem IB{W:Nat→Prop}{h:af}{s:SliceV}{xs:List (Option Addr)}(e:Sl vx 1 W h s xs)(m:xs.length*8≤140737488355328){K:SliceV→af→Prop}
  (i:∀s' c,OwnS vx 1 bS (fun b=>h.size≤b) c s' xs→Upd No h c→K s' c):HC PG eR [.slice s.a s.len s.cap] [.c .slice] K h:=by
 refine mD s ?_;unfold gQ;refine CondP.intro (fun d=>?_) (fun n=>?_)
 ·have d:s.a=none:=by simpa using d
  have hx:xs= []:=by
   by_cases hx:xs= []
   ·exact hx
   ·obtain⟨a,g,_⟩:=e.row hx
    rw[d]at g;cases g
  subst hx;exact i _ _ (OwnS.nil uv) (Upd.refl _ _)
 ·have h2:=e.upd (Upd.hnew No h [] bS) (fun _ h=>h.elim)
  refine⟨_,h2.srow,?_⟩;refine AppP.own (f:=vx) (M:=fun b=>h.size≤b) (xs:= []) (ys:=xs) ⟨rfl,uv,aq _,.inl rfl⟩ e.len rfl (ES xs) rfl (by omega) (by simpa using m) (by rw[gS];omega) fun s' c j o=>?_
  exact i _ _ j ((Upd.hnew No h [] bS).trans o fun b k=>.inr k)
theorem M1{M:Nat→Prop}{h:af}{s:SliceV}{xs:List (Option Addr)}(v:OwnS vx 1 bS M h s xs){k:Nat}(w:k<xs.length)(Q:xs.length≤4398046511104)
  {K:SliceV→af→Prop}(J:∀s' h',OwnS vx 1 bS M h' s' (xs.take k++xs.drop (k+1))→Upd M h h'→K s' h'):
  HC PG eG [.slice s.a s.len s.cap,.int .i64 k,.int .i64 ((k+1:Nat):Int)] [.c .slice] K h:=by
 refine mc s k ((k+1:Nat):Int) ?_;unfold gG;have g:=v.len;have E:=v.cap;rcases v.blk with O|⟨b,c,L,z,hc,G⟩
 ·omega
 have q:((xs.take k).flatMap vx).length=k*1:=by rw[qG uv,aO,cC (by omega)]
 have n:((xs.drop (k+1)).flatMap vx).length=(xs.length-(k+1))*1:=by rw[qG uv,aP]
 have I:xs.flatMap vx=(xs.take k).flatMap vx++(vx xs[k]++(xs.drop (k+1)).flatMap vx):=by
  rw[←cy,←dL w];exact F8 xs k
 rw[I]at hc;have f:=ES (xs.drop (k+1));have d:(xs.take k++xs.drop (k+1)).flatMap vx=(xs.take k).flatMap vx++(xs.drop (k+1)).flatMap vx:=cX;have F:(vx xs[k]).length=1:=rfl;generalize (xs.take k).flatMap vx=A at q hc d;generalize (xs.drop (k+1)).flatMap vx=B at n hc f d;generalize vx xs[k]=X at F hc;rw[L];simp only[g,bN];refine⟨by omega,by omega,by omega,CondP.intro (fun e=>?_) fun _=>?_⟩
 ·have:(k:Int)=((k+1:Nat):Int):=by simpa using e
  omega
 refine Join.plain ⟨by omega,by omega,B,?_,?_⟩
 ·by_cases m:xs.length=k+1
  ·exact⟨n,.inl (aw.1 (by rw[n,m,dJ,Nat.zero_mul]))⟩
  rw[qk (by omega)];refine sQ hc n ?_;have:(A++X).length=0+(k+1)*1:=by rw[ae];omega
  rw[show A++(X++B)++c=(A++X)++(B++c) by simp only[aF],du this,dM n]
 ·rw[sub_zero]
  refine R0 hc (by simp only[ae];omega) (by omega) f fun P i x=>?_
  have y:c.length=(s.cap-xs.length)*1:=by rw[G,g]
  refine⟨by dsimp only;omega,by dsimp only;omega,?_⟩
  simp only[Bd];rw[qk (by omega)];have H:xs.length-(k-0+(xs.length-(k+1)))=1:=by omega
  have C:(A++(X++B)++c).drop ((k-0)*1+B.length)=(X++B).drop B.length++c:=by
   rw[aF,←cS,du (show A.length=(k-0)*1 by rw[q,eX]),ix (by rw[ae];omega)]
  have t:(A++(X++B)++c).take ((k-0)*1)=A:=by rw[aF,dM (show A.length=(k-0)*1 by rw[q,eX])]
  rw[C,t]at i;have p:((X++B).drop B.length).length=1:=by rw[aP,ae];omega
  generalize (X++B).drop B.length=D at p i;rw[H];have N:(eM 1 [.pointer none]).length=1:=rfl;have j:(A++B).length=0+(k-0+(xs.length-(k+1)))*1:=by rw[ae,q,n];omega
  refine NV i (by simp only[ae]at j⊢;omega) fun h2 o u=>?_
  rw[dM j,←cS,du j]at o;refine J _ _ ⟨by simp;omega,uv,by simp only;omega,.inr ⟨b,eM 1 [.pointer none]++(D++c).drop (eM 1 [.pointer none]).length,rfl,z,?_,?_⟩⟩ ((x.mono fun _ e=>.inl (e▸z)).tr (u.mono fun _ e=>.inl (e▸z)))
  ·rw[o,d];simp only[aF]
  ·simp only[ae,aP,N,p,y]
   omega
end Go.Proofs
namespace Go.Proofs
open Go.Lift
abbrev Pr:=ByteArray×ByteArray
theorem Dw{a b:ByteArray}:a.toList=b.toList↔a=b:=by
 constructor
 ·intro h
  rw[ByteArray.toList_eq,ByteArray.toList_eq]at h;cases a;cases b;simp at h;subst h;rfl
 ·rintro rfl;rfl
def kl(a b:ByteArray):Prop:=be a.toList b.toList=true
instance (a b:ByteArray):Decidable (kl a b):=inferInstanceAs (Decidable (_=true))
theorem QQ{a b:ByteArray}:kl a b↔a.toList<b.toList:=by unfold kl;rw[bytesLess_eq,decide_eq_true_iff]
theorem fH(a:ByteArray):¬kl a a:=by rw[QQ];exact List.lt_irrefl _
theorem m9{a b c:ByteArray}(h:kl a b)(k:kl b c):kl a c:=by rw[QQ]at*;exact List.lt_trans h k
theorem tri:∀x y:List UInt8,be x y=false→x≠y→be y x=true
 | [],[],_,h=>absurd rfl h
 | [],_::_,h,_=>by simp[be]at h
 |_::_,[],_,_=>rfl
 |a::x,b::y,h,hn=>by
  simp only[be,Bool.or_eq_false_iff,decide_eq_false_iff_not,Bool.and_eq_false_iff]at h;simp only[be,Bool.or_eq_true,decide_eq_true_iff,Bool.and_eq_true];by_cases e:a=b
  ·subst e
   right;refine⟨by simp,tri x y ?_ fun e=>hn (by rw[e])⟩
   rcases h.2 with h|h
   ·simp at h
   ·exact h
  ·left
   have c:=h.1;rw[UInt8.lt_iff_toNat_lt]at c⊢;have:a.toNat≠b.toNat:=fun h=>e (UInt8.toNat_inj.1 h)
   omega
theorem yK{a b:ByteArray}(h:¬kl a b)(k:a≠b):kl b a:=tri _ _ (by unfold kl at h;simpa using h) fun e=>k (Dw.1 e)
def JH(a b:ByteArray):Int:=if kl a b then-1 else if a=b then 0 else 1
theorem K6{x:ByteArray}{h:af}{K:Bool→af→Prop}(b:K false h):HC PG pp [.string x] [.c .bool] K h:=by
 refine EL x ?_;unfold yn;simpa using b
theorem M2{a b:ByteArray}{h:af}{K:Int→af→Prop}(c:K (JH a b) h):HC PG qD [.string a,.string b] [.c (.int .i64)] K h:=by
 refine CF a b ?_;unfold vR;refine K6 (K6 (aH.2 (aH.2 ?_)));unfold JH at c;refine CondP.intro (fun e=>?_) fun e=>?_
 ·rw[if_pos (show kl a b from e)]at c;exact c
 ·have f:¬kl a b:=fun h=>by rw[show be a.toList b.toList=true from h]at e;cases e
  rw[if_neg f]at c;rw[e];refine CondP.intro (fun d=>?_) fun d=>?_
  ·rw[if_neg (fun h=>by subst h;simp at d)]at c;exact c
  ·have:a.toList=b.toList:=by simpa using d
   rw[if_pos (Dw.1 this)]at c;exact c
theorem KU{p:Pr}{k:ByteArray}{h:af}{K:Int→af→Prop}(b:∀h',Upd No h h'→K (JH p.1 k) h'):HC PG qv [.agg #[.string p.1,.string p.2],.string k] [.c (.int .i64)] K h:=by
 refine JV p k ?_;unfold CO cP jR Df;have b1:=c6 h [.string p.1,.string p.2] ay;refine⟨p.1,by rw[eS,dt,bP b1];rfl,M2 (b _ (Upd.hnew No h _ _))⟩
abbrev mL(l:List Pr):Prop:=l.Pairwise fun p q=>kl p.1 q.1
def pos(l:List Pr)(k:ByteArray):Nat:=(l.takeWhile fun p=>decide (kl p.1 k)).length
def oI(l:List Pr)(k:ByteArray):Bool:=l.any fun p=>decide (p.1=k)
theorem Qw{l:List Pr}{k:ByteArray}{i:Nat}(hi:i≤l.length)(b:∀j (h:j<l.length),j<i→kl l[j].1 k)(h2:∀(h:i<l.length),¬kl l[i].1 k):pos l k=i:=by
 unfold pos;induction l generalizing i with
 |nil=>simp at hi;simp[hi]
 |cons p l ih=>
  rw[List.takeWhile_cons];cases i with
  |zero=>
   have:=h2 (by simp);simp only[List.getElem_cons_zero]at this;rw[if_neg (by simpa using this)];rfl
  |succ i=>
   have:=b 0 (by simp) (by omega);simp only[List.getElem_cons_zero]at this;rw[if_pos (by simpa using this),ax];congr 1
   refine ih (by simpa using hi) (fun j c d=>?_) fun h=>?_
   ·have:=b (j+1) (by simpa using c) (by omega)
    simpa using this
   ·have:=h2 (by simpa using h)
    simpa using this
theorem Ue(l:List Pr)(k:ByteArray):pos l k≤l.length:=by
 unfold pos;exact(List.takeWhile_prefix _).length_le
theorem Tg{W:Nat→Prop}{h:af}{s:SliceV}{l:List Pr}(U:Sl ga 2 W h s l)(hr:mL l)(hn:l.length≤1000000000)(k:ByteArray){K:Int×Bool→af→Prop}
  (E:∀y,Upd No h y→K ((pos l k:Int),oI l k) y):HC PG yW [.slice s.a s.len s.cap,.string k] [.c (.int .i64),.c .bool] K h:=by
 refine LJ s k ?_;unfold Eo;refine jt s k _ ?_;unfold fb cp pF cr tQ;have Y:=U.len;have H:∀{p:Pr} {h:af} {K:Int→af→Prop},(∀y,Upd No h y→K (JH p.1 k) y)→HV PG (.func (.func qv) #[] #[]) [.agg #[.string p.1,.string p.2],.string k] [.c (.int .i64)] K h:=fun E=>HV.mk' (KU E)
 refine LoopP.ghost (fun(g:Nat×Nat) (t:Int×Int) y=>t.1=(g.1:Int)∧t.2=(g.2:Int)∧g.1≤g.2∧g.2≤l.length∧Upd No h y∧(∀j (T:j<l.length),j<g.1→kl l[j].1 k)∧(∀j (T:j<l.length),g.2≤j→¬kl l[j].1 k)) (fun g=>g.2-g.1) (0,l.length)
  ⟨rfl,by simp only;omega,by simp,by simp,Upd.refl _ _,fun j T h=>by omega,fun j T h=>by simp only at h;omega⟩ ?_
 rintro I ⟨i,j⟩ ⟨ti,tj⟩ y ⟨X,V,A,B,O,o,w⟩ Z;simp only at X V A B o w;subst X V;have G:=U.upd O fun _ h=>h.elim
 have mono:∀a b (F:a<l.length) (hb:b<l.length),a<b→kl l[a].1 l[b].1:=fun a b F hb S=>jT.1 hr a b F hb S
 refine av (fun v=>?_) fun Q=>?_
 ·have v:i<j:=by have:(i:Int)<(j:Int):=v;omega
  have em:ac .i64 (dI (ac .u64 (ac .i64 ((i:Int)+(j:Int)))) (2^(min (1:Int).toNat (ai .u64))))=(((i+j)/2:Nat):Int):=by
   have e3:(2^(min (1:Int).toNat (ai .u64)):Int)=2:=rfl;rw[e3,dW (x:=(i:Int)+(j:Int)) (by omega),Go.IntWalk.u64_in _ (by omega),fo _ (by omega),dW (by omega)];omega
  refine⟨by decide,?_⟩;simp only[Bd];rw[em];generalize hm:(i+j)/2=m;have C:m<l.length:=by omega
  obtain⟨a,F,_,hv⟩:=G.at (aj C);refine⟨by omega,a,F,l[m].1,hv 0 _ rfl,l[m].2,hv 1 _ rfl,H fun h2 u=>?_⟩
  refine av (fun d=>?_) fun N=>?_
  ·have c:kl l[m].1 k:=by
    unfold JH at d;by_cases c:kl l[m].1 k
    ·exact c
    ·rw[if_neg c]at d;split at d<;>omega
   refine Z (m+1,j) _ _ ⟨by simp only;rw[dW (by omega)];omega,rfl,by simp only;omega,B,O.tr u,fun q z D=>?_,w⟩ (by simp only;omega)
   simp only at D;rcases eD q m with h|h
   ·exact m9 (mono q m z C h) c
   ·have:q=m:=by omega
    subst this;exact c
  ·have f:¬kl l[m].1 k:=fun c=>N (by unfold JH;rw[if_pos c];decide)
   refine Z (i,m) _ _ ⟨rfl,rfl,by simp only;omega,by simp only;omega,O.tr u,o,fun q z D J=>?_⟩ (by simp only;omega)
   simp only at D;rcases eD m q with h|h
   ·exact f (m9 (mono m q C z h) J)
   ·have:q=m:=by omega
    subst this;exact f J
 ·have A:i=j:=by have:¬(i:Int)<(j:Int):=Q;omega
  subst A;have L:pos l k=i:=Qw B o fun hi=>w i hi (aq _)
  rw[L]at E;refine av (fun v=>?_) fun P=>?_
  ·have n:i<l.length:=by have:(i:Int)<(s.len:Int):=v;omega
   obtain⟨a,F,_,hv⟩:=G.at (aj n);refine⟨by simp only;omega,a,F,l[i].1,hv 0 _ rfl,l[i].2,hv 1 _ rfl,H fun h2 u=>?_⟩
   have f:=w i n (aq _);have R:(JH l[i].1 k==(0:Int))=oI l k:=by
    unfold JH oI;rw[if_neg f,jZ,g8];constructor
    ·intro h
     split at h
     ·rename_i e;exact⟨l[i],List.getElem_mem n,decide_eq_true e⟩
     ·simp at h
    ·rintro⟨p,L,e⟩
     have e:=of_decide_eq_true e;obtain⟨q,z,rfl⟩:=List.mem_iff_getElem.1 L;have:q=i:=by
      rcases Nat.lt_trichotomy q i with h|h|h
      ·exact absurd (e▸o q z h) (fH _)
      ·exact h
      ·exact absurd (e▸mono i q n z h) f
     subst this;rw[if_pos e];rfl
   rw[R];exact E _ (O.tr u)
  ·have n:i=l.length:=by have:¬(i:Int)<(s.len:Int):=P;omega
   have R:oI l k=false:=by
    unfold oI;rw[List.any_eq_false];intro p L e;have e:=of_decide_eq_true e;obtain⟨q,z,rfl⟩:=List.mem_iff_getElem.1 L;exact absurd (e▸o q z (by omega)) (fH _)
   rw[R]at E;exact E _ O
end Go.Proofs
namespace Go.Proofs
open Go.Lift
theorem OwnS.zero{α:Type}{f:α→List Value}{c:Nat}{t:TypeId}{M:Nat→Prop}{h:af}{s:SliceV}{xs:List α}(e:OwnS f c t M h s xs):OwnS f c t M h ⟨bw s.a 0 s.cap c,0-0,s.cap-0⟩ []:=by
 have i:∀x,(f x).length=c∧0<c:=e.ne;have j:=e.len;have g:=e.cap;refine⟨rfl,i,by simp only;omega,?_⟩
 rcases e.blk with o|⟨b,d,n,m,hc,k⟩
 ·exact .inl (by simp only;omega)
 ·refine .inr ⟨b,xs.flatMap f++d,by rw[n,sub_zero],m,hc,?_⟩
  rw[ae,qG i,k,←Nat.add_mul];simp only;congr 1;omega
def zPr:Pr:=(⟨#[]⟩,⟨#[]⟩)
theorem NG(n:Nat):eM n [.string (⟨#[]⟩:ByteArray),.string (⟨#[]⟩:ByteArray)]=(lr n zPr).flatMap ga:=by
 unfold eM;induction n with
 |zero=>rfl
 |succ n ih=>rw[oE,oE,cy,←ih];rfl
theorem Te{n:Nat}(j:n*32≤140737488355328){h:af}{K:SliceV→af→Prop}(d:∀s' c,OwnS ga 2 ay (fun b=>h.size≤b) c s' []→Upd No h c→K s' c):
  HC PG fK [.slice none 0 0,.int .i64 n] [.c .slice] K h:=by
 refine o9 ⟨none,0,0⟩ n ?_;unfold jm oG;have e:ac .i64 ((n:Int)-ac .i64 (((0:Nat):Int)-((0:Nat):Int)))=(n:Int):=by rw[dW (x:=((0:Nat):Int)-((0:Nat):Int)) (by omega),dW (by omega)];omega
 refine Join.plain (av (fun h=>by omega) fun _=>?_)
 simp only[Bd];rw[e];refine av (fun m=>?_) fun o=>d _ _ (OwnS.nil oo) (Upd.refl _ _)
 refine⟨by omega,⟨by omega,by omega,by omega,by omega⟩,?_⟩
 refine AppP.own (f:=ga) (M:=fun b=>h.size≤b) (xs:= []) (ys:=lr n zPr) (OwnS.nil oo) (by simp) (NG _) (by rw[NG];exact zT _) rfl (by omega) (by simpa using j) (aq _) fun s' c g k=>?_
 exact⟨by omega,d _ _ (OwnS.zero g) (k.mono fun b i=>.inr i)⟩
abbrev slF(s:SliceV):List Value:= [.slice s.a s.len s.cap]
def ParS(h:af):List SliceV→List (List Pr)→Prop
 | [],[]=>True
 |v::vs,l::ls=>Sl ga 2 No h v l∧ParS h vs ls
 |_,_=>False
theorem ParS.upd{h b:af}(k:Upd No h b):∀{vs:List SliceV} {ls:List (List Pr)},ParS h vs ls→ParS b vs ls
 | [],[],_=>trivial
 |_::_,_::_,q=>⟨q.1.upd k fun _ h=>h.elim,ParS.upd k q.2⟩
 | [],_::_,q=>q.elim
 |_::_,[],q=>q.elim
theorem ParS.len{h:af}:∀{vs:List SliceV} {ls:List (List Pr)},ParS h vs ls→vs.length=ls.length
 | [],[],_=>rfl
 |_::_,_::_,q=>by rw[ax,ax,ParS.len q.2]
 | [],_::_,q=>q.elim
 |_::_,[],q=>q.elim
theorem ParS.at{h:af}:∀{vs:List SliceV} {ls:List (List Pr)},ParS h vs ls→∀{i:Nat} (h1:i<vs.length) (h2:i<ls.length),Sl ga 2 No h vs[i] ls[i]
 |_::_,_::_,q,0,_,_=>q.1
 |_::_,_::_,q,i+1,h1,h2=>ParS.at q.2 (by simpa using h1) (by simpa using h2)
theorem Iu(ls:List (List Pr)){i:Nat}(hi:i<ls.length):(ls.take (i+1)).flatten=(ls.take i).flatten++ls[i]:=by
 rw[List.take_succ_eq_append_getElem hi,List.flatten_append,rc,List.flatten_nil,List.append_nil]
theorem Oa(ls:List (List Pr))(i:Nat):(ls.take i).flatten.length≤ls.flatten.length:=by
 have:ls.flatten=(ls.take i).flatten++(ls.drop i).flatten:=by rw[←List.flatten_append,List.take_append_drop]
 rw[this,ae];omega
theorem Pf{h:af}{s:SliceV}{vs:List SliceV}{ls:List (List Pr)}(z:Sl slF 1 No h s vs)(A:ParS h vs ls)(R:ls.flatten.length*32≤140737488355328)(hv:vs.length≤1000)
  {K:SliceV→af→Prop}(N:∀s' f,OwnS ga 2 ay (fun b=>h.size≤b) f s' ls.flatten→Upd No h f→K s' f):HC PG fx [.slice s.a s.len s.cap] [.c .slice] K h:=by
 refine nY s ?_;unfold iK aW cp oG;have G:=z.len;have e:=A.len;refine LoopP.ghost (fun(i:Nat) (t:Int×Int) f=>t.2=(i:Int)∧i≤vs.length∧t.1=((ls.take i).flatten.length:Int)∧f=h) (fun i=>vs.length-i) 0 ⟨rfl,bJ _,by simp,rfl⟩ ?_
 rintro I i ⟨T,ti⟩ f ⟨n,hi,F,rfl⟩ P;simp only at n F;subst n F;refine av (fun c=>?_) fun w=>?_
 ·have c:i<vs.length:=by have:(i:Int)<(s.len:Int):=c;omega
  obtain⟨a,B,_,g⟩:=z.at (aj c);have H:=(A.at c (e▸c)).len;have d:=congrArg jp (Iu ls (e▸c));rw[ae]at d;have u:=Oa ls (i+1);refine Join.plain ⟨by simp only;omega,a,B,_,g 0 _ rfl,?_⟩;simp only;have O:ac .i64 (((ls.take i).flatten.length:Int)+((vs[i]).len:Int))=((ls.take (i+1)).flatten.length:Int):=by rw[dW (by omega)];omega
  rw[O];refine av (fun h=>by omega) fun _=>?_
  rw[rt c (by omega)];exact P (i+1) _ _ ⟨rfl,c,rfl,rfl⟩ (by omega)
 ·have J:i=vs.length:=by have:¬(i:Int)<(s.len:Int):=w;omega
  rw[bL (by omega)];refine Te R fun V W D x=>?_
  refine LoopP.ghost (fun(i:Nat) (t:SliceV×Int) E=>t.2=(i:Int)∧i≤vs.length∧OwnS ga 2 ay (fun b=>f.size≤b) E t.1 (ls.take i).flatten∧Upd No f E) (fun i=>vs.length-i) 0 ⟨rfl,bJ _,by simpa using D,x⟩ ?_
  rintro S j ⟨X,U⟩ E ⟨n,Y,q,p⟩ v;simp only at n q;subst n;refine av (fun c=>?_) fun o=>?_
  ·have c:j<vs.length:=by have:(j:Int)<(s.len:Int):=c;omega
   obtain⟨a,B,_,g⟩:=(z.upd p fun _ h=>h.elim).at (aj c)
   have k:=((A.upd p).at c (e▸c));have d:=Iu ls (e▸c);have m:=congrArg jp d;rw[ae]at m;have u:=Oa ls (j+1);refine Join.plain ⟨by simp only;omega,a,B,_,g 0 _ rfl,_,k.srow,?_⟩;refine AppP.own (ys:=ls[j]) q k.len rfl (zT _) rfl (by omega) (by omega) p.size fun Z h2 C y=>?_
   simp only;rw[rt c (by omega)];exact v (j+1) _ _ ⟨rfl,c,d▸C,p.trans y fun b Q=>.inr Q⟩ (by omega)
  ·have L:j=vs.length:=by have:¬(j:Int)<(s.len:Int):=o;omega
   rw[bL (by omega)]at q;exact N _ _ q p
def Jt(l:List Pr)(p:Pr):List Pr:=l.take (pos l p.1)++p::l.drop (if oI l p.1 then pos l p.1+1 else pos l p.1)
theorem Qx{l:List Pr}(f:mL l){k:ByteArray}(c:oI l k=true):∃h:pos l k<l.length,l[pos l k].1=k:=by
 unfold oI at c;obtain⟨p,g,e⟩:=g8.1 c;have e:=of_decide_eq_true e;obtain⟨q,d,rfl⟩:=List.mem_iff_getElem.1 g;have:pos l k=q:=Qw (by omega) (fun j i b=>by rw[←e];exact jT.1 f j q i d b) fun h=>by rw[←e];exact fH _
 subst this;exact⟨d,e⟩
theorem Qf{h:af}{s:SliceV}{l:List Pr}(b:Sl ga 2 No h s l){i j m:Nat}(e:i≤j)(h2:j≤l.length)(d:j≤m)(c:Nat):Sl ga 2 No h ⟨bw s.a i m 2,j-i,c⟩ ((l.drop i).take (j-i)):=Sl.sub b e h2 d
theorem ME{h:af}{s:SliceV}{l:List Pr}(u:Sl ga 2 No h s l)(hc:s.len≤s.cap)(z:mL l)(P:l.length≤1000000000)(p:Pr)
  {K:SliceV→af→Prop}(H:∀s' c,OwnS ga 2 ay (fun b=>h.size≤b) c s' (Jt l p)→Upd No h c→K s' c):HC PG Bm [.slice s.a s.len s.cap,.agg #[.string p.1,.string p.2]] [.c .slice] K h:=by
 refine Nt s p ?_;unfold GM cP jR Df TU;have n:=u.len;have k1:=Upd.hnew No h [.string p.1,.string p.2] ay;have b1:=c6 h [.string p.1,.string p.2] ay;refine dx ?_;simp only[eS h];generalize hnew h [.string p.1,.string p.2] ay=h1 at k1 b1;refine⟨p.1,by rw[dt,bP b1];rfl,Tg (u.upd k1 fun _ h=>h.elim) z P p.1 fun h2 f=>?_⟩
 have B:=Ue l p.1;have d:=k1.tr f;refine⟨by simp only;omega,?_⟩;let q:=if oI l p.1 then pos l p.1+1 else pos l p.1
 have I:q≤l.length:=by
  show(if oI l p.1 then pos l p.1+1 else pos l p.1)≤l.length
  split
  ·rename_i ht;obtain⟨h,_⟩:=Qx z ht;omega
  ·exact B
 refine Join.intro (fun t c=>c=h2∧t=⟨bw s.a q s.cap 2,s.len-q,s.cap-q⟩) (fun R C=>?_) ?_
 ·refine CondP.intro (fun e=>?_) fun e=>C _ _ ⟨rfl,?_⟩
  ·have e:oI l p.1=true:=e
   obtain⟨J,_⟩:=Qx z e;have L:ac .i64 ((pos l p.1:Int)+1)=((pos l p.1+1:Nat):Int):=by rw[dW (by omega)];omega
   simp only;rw[L];refine⟨by omega,C _ _ ⟨rfl,?_⟩⟩;have:q=pos l p.1+1:=by show(if oI l p.1 then _ else _)=_;rw[if_pos e]
   rw[this];rfl
  ·have e:oI l p.1=false:=e
   have:q=pos l p.1:=by show(if oI l p.1 then _ else _)=_;rw[if_neg (by rw[e];decide)]
   rw[this];rfl
 ·rintro t c ⟨rfl,rfl⟩
  have b2:=f.get0 b1;refine⟨by simp only;omega,p.1,by rw[dt,bP b2];rfl,p.2,by rw[dt,bP b2];rfl,?_⟩
  have y:=Upd.hnew No c [.string p.1,.string p.2] ay;have b3:=c6 c [.string p.1,.string p.2] ay;refine dx ?_;simp only[eS c];generalize hnew c [.string p.1,.string p.2] ay=h3 at y b3;refine dx ?_;have g:=(u.upd d fun _ h=>h.elim).upd y fun _ h=>h.elim
  have o:=Upd.hnew No h3 [.slice (bw s.a 0 s.cap 2) ((pos l p.1:Int).toNat-0) (s.cap-0),.slice (some ⟨c.size,0,none⟩) 1 1,.slice (bw s.a q s.cap 2) (s.len-q) (s.cap-q)] jf;have N:=c6 h3 [.slice (bw s.a 0 s.cap 2) ((pos l p.1:Int).toNat-0) (s.cap-0),.slice (some ⟨c.size,0,none⟩) 1 1,.slice (bw s.a q s.cap 2) (s.len-q) (s.cap-q)] jf;have D:=Qf g (i:=0) (j:=pos l p.1) (m:=s.cap) (bJ _) B (by omega) (s.cap-0)
  have G:Sl ga 2 No h3 ⟨some ⟨c.size,0,none⟩,1,1⟩ [p]:=⟨rfl,oo,fun _=>⟨_,rfl,fun h=>h.elim,zP b3 fun i v hv=>by simpa using hv⟩⟩
  have w:=Qf g (i:=q) (j:=l.length) (m:=s.cap) I (aq _) (by omega) (s.cap-q);rw[←n]at w;rw[dH]at D;rw[bL (by rw[aP];omega)]at w;have F:Jt l p= [l.take (pos l p.1-0),[p],l.drop q].flatten:=by simp[Jt,q]
  refine Pf (s:=⟨some (aI h3),3,3⟩) (vs:= [⟨bw s.a 0 s.cap 2,(pos l p.1:Int).toNat-0,s.cap-0⟩,⟨some ⟨c.size,0,none⟩,1,1⟩,⟨bw s.a q s.cap 2,s.len-q,s.cap-q⟩]) (ls:= [l.take (pos l p.1-0),[p],l.drop q])
   ⟨rfl,fun x=>⟨rfl,Nat.one_pos⟩,fun _=>⟨_,rfl,fun h=>h.elim,zP N fun i v hv=>by simpa[slF]using hv⟩⟩ ⟨D.upd o fun _ h=>h.elim,G.upd o fun _ h=>h.elim,w.upd o fun _ h=>h.elim,trivial⟩ ?_ (by simp) fun S Q k A=>?_
  ·simp only[rc,List.flatten_nil,ae,aO,aP,List.length_singleton,List.length_nil];omega
  ·rw[←F]at k
   have E:=((d.tr y).tr o);exact H _ _ (k.more fun b O=>Nat.le_trans E.size O) (E.tr A)
end Go.Proofs
namespace Go.Proofs
open Go.Lift
def xf(n d:Nat):Nat:=(fB n).countP (d.testBit ·)
theorem E1(m n d:Nat):xf (m+n) d=xf m d+xf n (d>>>m):=by
 unfold xf;rw[List.range_add,List.countP_append,List.countP_map];congr 1
 refine List.countP_congr fun i _=>?_
 simp[Nat.testBit_shiftRight]
theorem Od(d:Nat)(i:Nat):∀n,i≤n→xf n (d&&&(2^i-1))=xf i d:=by
 intro n b;obtain⟨m,rfl⟩:=Nat.exists_eq_add_of_le b;rw[E1];have f:xf i (d&&&(2^i-1))=xf i d:=by
  unfold xf;refine List.countP_congr fun j c=>?_
  have:=qY.1 c;simp[mo,mO,this]
 have e:xf m ((d&&&(2^i-1))>>>i)=0:=by
  unfold xf;rw[List.countP_eq_zero];intro j _;simp[Nat.testBit_shiftRight,mo,mO];intro h;omega
 omega
theorem UF(d:Nat):xf 8 (d&&&255)=xf 8 d:=Od d 8 8 (aq _)
theorem Bs(n d:Nat):xf n d≤n:=by
 have:=List.countP_le_length (p:=(d.testBit ·)) (l:=fB n)
 simpa[xf]using this
theorem uz(d n:Nat):dI (d:Int) (2^n)=((d>>>n:Nat):Int):=by
 rw[fo _ (by exact Int.le_of_lt (Int.pow_pos (by decide))),oe];simp
theorem Sf(a b:Nat):(ao (ai .u32) (a:Int)&&&ao (ai .u32) (b:Int)).toNat=(a%4294967296)&&&(b%4294967296):=by
 simp[ai,BitVec.toNat_and,BitVec.toNat_ofInt];rfl
theorem BN{n:Nat}(h:n<4294967296):ac .u32 (n:Int)=(n:Int):=Go.IntWalk.u32_in _ (by omega)
theorem Fv{i:Nat}(hi:i<32){h:af}{K:Bool→af→Prop}(b:K true h):HC PG oW [.int .i64 i] [.c .bool] K h:=by
 refine Hx i ?_;unfold AR;refine av (fun _=>?_) fun h=>absurd (Int.natCast_nonneg i) h
 rw[decide_eq_true (by omega)];exact b
theorem JO{a b:Nat}(h:b<4294967296):a&&&b<4294967296:=jE Nat.and_le_right h
theorem JA{d i:Nat}(hd:d<4294967296)(hi:i<32){h:af}{K:Bool→af→Prop}(g:K (d.testBit i) h):HC PG jr [.int .u32 d,.int .i64 i] [.c .bool] K h:=by
 refine DL d i ?_;unfold xt;refine Fv hi (aX.2 ⟨by omega,?_⟩);have e:min (i:Int).toNat (ai .u32)=i:=by rw[bN];exact cC (by show i≤32;omega)
 rw[e,uz];have b:=Sf (d>>>i) 1;have c:d>>>i<4294967296:=jE (qX d i) hd;rw[gY c,show(1:Nat)%4294967296=1 from rfl]at b
 simp only[Bd];rw[show((1:Nat):Int)=(1:Int)from rfl]at b
 rw[b,BN (JO (by omega))];have f:(((d>>>i&&&1:Nat):Int)==(1:Int))=d.testBit i:=by
  rw[jZ,beq_iff_eq,Nat.testBit,Nat.and_comm];simp only[bne_iff_ne,ne_eq,Nat.one_and_eq_mod_two];have:(d>>>i)%2<2:=Nat.mod_lt _ (by omega);omega
 rw[f];exact g
theorem Pp{d i:Nat}(hd:d<4294967296)(hi:i<32):∃w:Nat,ac .u32 (ao (ai .u32) (d:Int)|||ao (ai .u32) (ac .u32 (1*2^(min (i:Int).toNat (ai .u32))))).toNat=(w:Int)∧w<4294967296∧∀j,w.testBit j=(d.testBit j||decide (j=i)):=by
 have e:min (i:Int).toNat (ai .u32)=i:=by rw[bN];exact cC (by show i≤32;omega)
 have c:2^i<4294967296:=Nat.pow_lt_pow_right (by omega) (show i<32 from hi)
 have f:(1*2^i:Int)=((2^i:Nat):Int):=by simp
 rw[e,f,BN c];refine⟨_,BN (BitVec.isLt _),BitVec.isLt _,fun j=>?_⟩
 rw[BitVec.testBit_toNat,BitVec.getLsbD_or,iy,iy,nJ,nJ,Nat.testBit_two_pow];by_cases b:j<32
 ·have:decide (j<ai .u32)=true:=decide_eq_true b
  rw[this];simp[eq_comm]
 ·have g:decide (j<ai .u32)=false:=decide_eq_false b
  have h2:d.testBit j=false:=Nat.testBit_lt_two_pow (aG hd (iv (n:=2) (by omega) (show 32≤j by omega)))
  rw[g,h2];simp;omega
theorem NK{d i:Nat}(hd:d<4294967296)(hi:i<32){h:af}{K:Int→af→Prop}(c:∀w:Nat,w<4294967296→(∀j,w.testBit j=(d.testBit j||decide (j=i)))→K (w:Int) h):HC PG fE [.int .u32 d,.int .i64 i] [.c (.int .u32)] K h:=by
 refine CH d i ?_;unfold vT;refine Fv hi (aH.2 ⟨by omega,?_⟩);obtain⟨w,e,b,h2⟩:=Pp hd hi;simp only[Bd];rw[e];exact c w b h2
theorem JL{d i:Nat}(hd:d<4294967296)(hi:i<32):∃w:Nat,ac .u32 (ao (ai .u32) (d:Int)&&& ~~~ao (ai .u32) (ac .u32 (1*2^(min (i:Int).toNat (ai .u32))))).toNat=(w:Int)∧w<4294967296∧∀j,w.testBit j=(d.testBit j&&decide (j≠i)):=by
 have e:min (i:Int).toNat (ai .u32)=i:=by rw[bN];exact cC (by show i≤32;omega)
 have c:2^i<4294967296:=Nat.pow_lt_pow_right (by omega) (show i<32 from hi)
 have f:(1*2^i:Int)=((2^i:Nat):Int):=by simp
 rw[e,f,BN c];refine⟨_,BN (BitVec.isLt _),BitVec.isLt _,fun j=>?_⟩
 rw[BitVec.testBit_toNat,BitVec.getLsbD_and,BitVec.getLsbD_not,iy,iy,nJ,nJ,Nat.testBit_two_pow];by_cases b:j<32
 ·have:decide (j<ai .u32)=true:=decide_eq_true b
  rw[this];simp[eq_comm]
 ·have g:decide (j<ai .u32)=false:=decide_eq_false b
  have h2:d.testBit j=false:=Nat.testBit_lt_two_pow (aG hd (iv (n:=2) (by omega) (show 32≤j by omega)))
  rw[g,h2];simp
theorem E6{d i:Nat}(hd:d<4294967296)(hi:i<32){h:af}{K:Int→af→Prop}(c:∀w:Nat,w<4294967296→(∀j,w.testBit j=(d.testBit j&&decide (j≠i)))→K (w:Int) h):HC PG kf [.int .u32 d,.int .i64 i] [.c (.int .u32)] K h:=by
 refine zg d i ?_;unfold sL;refine Fv hi (aH.2 ⟨by omega,?_⟩);obtain⟨w,e,b,h2⟩:=JL hd hi;simp only[Bd];rw[e];exact c w b h2
abbrev U9:ByteArray:=⟨#[0,1,1,2,1,2,2,3,1,2,2,3,2,3,3,4,1,2,2,3,2,3,3,4,2,3,3,4,3,4,4,5,1,2,2,3,2,3,3,4,2,3,3,4,3,4,4,5,2,3,3,4,3,4,4,5,3,4,4,5,4,5,5,6,1,2,2,3,2,3,3,4,2,3,3,4,3,4,4,5,2,3,3,4,3,4,4,5,3,4,4,5,4,5,5,6,2,3,3,4,3,4,4,5,3,4,4,5,4,5,5,6,3,4,4,5,4,5,5,6,4,5,5,6,5,6,6,7,1,2,2,3,2,3,3,4,2,3,3,4,3,4,4,5,2,3,3,4,3,4,4,5,3,4,4,5,4,5,5,6,2,3,3,4,3,4,4,5,3,4,4,5,4,5,5,6,3,4,4,5,4,5,5,6,4,5,5,6,5,6,6,7,2,3,3,4,3,4,4,5,3,4,4,5,4,5,5,6,3,4,4,5,4,5,5,6,4,5,5,6,5,6,6,7,3,4,4,5,4,5,5,6,4,5,5,6,5,6,6,7,4,5,5,6,5,6,6,7,5,6,6,7,6,7,7,8]⟩
theorem SD:(fB 256).all (fun b=>decide (U9[b]? =some (fj (xf 8 b))))=true:=by decide+kernel
theorem IT{b:Nat}(h:b<256):U9[b]? =some (fj (xf 8 b)):=of_decide_eq_true (List.all_eq_true.1 SD b (qY.2 h))
theorem JG(b:Nat):(fj (xf 8 b)).toNat=xf 8 b:=by
 have:=Bs 8 b;simp;omega
theorem Wt(d:Nat):xf 32 d=xf 8 (d>>>24)+xf 8 ((d>>>16)&&&255)+xf 8 ((d>>>8)&&&255)+xf 8 (d&&&255):=by
 rw[UF,UF,UF,show(32:Nat)=8+(8+(8+8))from rfl,E1,E1,E1]
 simp only[←Nat.shiftRight_add,Nat.reduceAdd];omega
set_option maxRecDepth 100000 in
theorem SX{d:Nat}(hd:d<4294967296){h:af}{K:Int→af→Prop}(k:K (xf 32 d:Int) h):HC PG ll [.int .u32 d] [.c (.int .i64)] K h:=by
 refine xk d ?_;unfold qc;have c:dI (d:Int) (2^(min (24:Int).toNat (ai .u32)))=((d>>>24:Nat):Int):=uz d 24;have g:dI (d:Int) (2^(min (16:Int).toNat (ai .u32)))=((d>>>16:Nat):Int):=uz d 16;have m:dI (d:Int) (2^(min (8:Int).toNat (ai .u32)))=((d>>>8:Nat):Int):=uz d 8;have b:∀x:Nat,x<4294967296→ac .u32 (ao (ai .u32) (x:Int)&&&ao (ai .u32) 255).toNat=((x&&&255:Nat):Int):=fun x hx=>by
  have:=Sf x 255;rw[gY hx]at this;rw[show((255:Nat):Int)=(255:Int)from rfl]at this
  rw[this,BN (JO (by omega))]
 have j:d>>>24<256:=by rw[oe];omega
 have i:∀x:Nat,x&&&255<256:=fun x=>jE Nat.and_le_right (by omega)
 have e:d>>>16<4294967296:=jE (qX d 16) hd;have o:d>>>8<4294967296:=jE (qX d 8) hd;simp only[Bd];rw[c,g,m,b _ e,b _ o,b _ hd];refine⟨by decide,_,by omega,IT (b:=d>>>24) j,by decide,_,by omega,IT (i _),by decide,_,by omega,IT (i _),_,by omega,IT (i _),?_⟩
 rw[JG,JG,JG,JG];simp only[bN];have q:=Bs 8 (d>>>24);have s:=Bs 8 (d>>>16&&&255);have p:=Bs 8 (d>>>8&&&255);have q4:=Bs 8 (d&&&255);rw[Wt]at k;have f:∀n:Nat,n≤255→ac .u8 (n:Int)=(n:Int):=fun n t=>Go.IntWalk.u8_in _ (by omega)
 rw[←Int.natCast_add,f _ (by omega),←Int.natCast_add,f _ (by omega),←Int.natCast_add,f _ (by omega),dW (by omega)];exact k
theorem vv{d i:Nat}(hd:d<4294967296)(hi:i<32){h:af}{K:Int→af→Prop}(b:K (xf i d:Int) h):HC PG eh [.int .u32 d,.int .i64 i] [.c (.int .i64)] K h:=by
 refine CI d i ?_;unfold vU;refine av (fun g=>?_) fun g=>?_
 ·have:i=0:=by omega
  subst this;exact b
 ·refine av (fun h=>by omega) fun _=>⟨by omega,?_⟩
  have e:min (i:Int).toNat (ai .u32)=i:=by rw[bN];exact cC (by show i≤32;omega)
  have c:2^i<4294967296:=Nat.pow_lt_pow_right (by omega) (show i<32 from hi)
  have k:0<2^i:=Nat.pow_pos (by omega);have j:(1*2^i:Int)=((2^i:Nat):Int):=by simp
  have f:(((2^i:Nat):Int)-1)=((2^i-1:Nat):Int):=by omega
  simp only[Bd];rw[e,j,BN c,f,BN (show 2^i-1<4294967296 by omega),Sf,gY hd,gY (show 2^i-1<4294967296 by omega),BN (JO (by omega))]
  refine BH _ ?_;unfold vj;refine SX (JO (by omega)) ?_;rw[Od d i 32 (by omega)];exact b
end Go.Proofs
