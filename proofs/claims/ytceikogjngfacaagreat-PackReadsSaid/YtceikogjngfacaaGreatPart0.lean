/- A part of the proof that the named laws of this program answer true, whatever the input. -/
import Derived.Test.YtceikogjngfacaaGreatTreeF0
import Derived.Test.YtceikogjngfacaaGreatTreeF1
import Derived.Test.YtceikogjngfacaaGreatTreeF2
import Derived.Test.YtceikogjngfacaaGreatTreeF3
import Derived.Test.YtceikogjngfacaaGreatLaw0
import Derived.Test.YtceikogjngfacaaGreatLift3
import Derived.Lib.Overlaps
import Derived.Sort.Walk0
open BitVec renaming ofInt→az
open Go.IntKind renaming wrap→ac,bits→aj
open Go.Op renaming bytesLess→bH
open Int renaming fdiv→fa,toNat_natCast→bQ
open List renaming flatMap_cons→aZ,take_length→cG,drop_length→gS,length_take→aL,length_drop→aW,flatMap_append→cQ,drop_zero→dJ,append_assoc→aw,take_append_of_le_length→iq,take_of_length_le→bL,length_append→af,drop_left→kP,take_left→kO,size_toArray→dD,drop_eq_getElem_cons→cn,length_eq_zero_iff→ax,drop_left'→dH,take_left'→dY,drop_drop→cW,drop_append_of_le_length→is,getElem_cons_zero→lm,length_cons→av,pairwise_iff_getElem→df,getElem?_eq_getElem→ag,any_eq_true→dZ,mem_iff_getElem→dP,replicate→gg,replicate_succ→nN,flatten_append→nO,flatten_cons→mr,length→eO
open Nat renaming zero_le→aY,zero_add→bK,sub_self→di,le_refl→ai,lt_or_ge→dB,min_eq_left→cr,sub_zero→ec,min→fX,add_one_mul→lU,one_mul→vv
namespace Go.Proofs
open Go.Lift
theorem OJ(n:Int):0≤ac .u64 n∧ac .u64 n<18446744073709551616:=by rw[IntKind.wrap_u64];omega
theorem dL{x:Int}(h: -4611686018427387904≤x∧x≤4611686018427387904):ac .i64 x=x:=Go.IntWalk.i64_in _ (by omega)
theorem cX{i n:Nat}(h:i<n)(b:n≤4611686018427387904):ac .i64 ((i:Int)+1)=((i+1:Nat):Int):=by rw[dL (by omega)];omega
theorem Bq{h:ae}{b i:Nat}{c:Array Value}{t:TypeId}{v:Value}{k:ae→Prop}(d:h[b]? =some (.cells c t (0,0)))
  (e:∀h',h'[b]? =some (.cells (c.setIfInBounds i v) t (0,0))→Upd (· =b) h h'→k h'):At (hset h ⟨b,i,none⟩ v) k:=by
 refine e _ ?_ (Upd.hset _ _ rfl);rw[ju d,dU d]
def VL(a b:Int):Int:=ac .u64 (az (aj .u64) a&&&az (aj .u64) b).toNat
def gj(a b:Int):Int:=ac .u64 (az (aj .u64) a^^^az (aj .u64) b).toNat
def Ux(a b:Int):Int:=ac .u64 (az (aj .u64) a|||az (aj .u64) b).toNat
def O9(x n:Int):Int:=
 Ux (ac .u64 (x*2^(min (VL (ac .u64 n) 63).toNat (aj .u64)))) (fa x (2^(min (ac .u64 (64-VL (ac .u64 n) 63)).toNat (aj .u64))))
theorem DC{x n:Int}{h:ae}{K:Int→ae→Prop}(b:K (O9 x n) h):qu 273 [.int .u64 x,.int .i64 n] K h:=by
 refine eM (nY x n) .nil Tryz.func273 Tryz.call273 ?_;dsimp only[nY,Bv];exact⟨(OJ _).1,(OJ _).1,b⟩
abbrev Q4:=Int×Int×Int×Int
def q4(s:Q4):Array Value:= #[.int .u64 s.1,.int .u64 s.2.1,.int .u64 s.2.2.1,.int .u64 s.2.2.2]
def Xz(a b:Int):Int:=ac .u64 (a+b)
def V6(s:Q4):Q4:=(Xz s.1 s.2.1,s.2)
def WF(s:Q4):Q4:=(s.1,gj (O9 s.2.1 13) s.1,s.2.2)
def XT(s:Q4):Q4:=(O9 s.1 32,s.2)
def XR(s:Q4):Q4:=(s.1,s.2.1,Xz s.2.2.1 s.2.2.2,s.2.2.2)
def Zh(s:Q4):Q4:=(s.1,s.2.1,s.2.2.1,gj (O9 s.2.2.2 16) s.2.2.1)
def ZE(s:Q4):Q4:=(Xz s.1 s.2.2.2,s.2)
def aaq(s:Q4):Q4:=(s.1,s.2.1,s.2.2.1,gj (O9 s.2.2.2 21) s.1)
def aaz(s:Q4):Q4:=(s.1,s.2.1,Xz s.2.2.1 s.2.1,s.2.2.2)
def s09(s:Q4):Q4:=(s.1,gj (O9 s.2.1 17) s.2.2.1,s.2.2)
def V5(s:Q4):Q4:=(s.1,s.2.1,O9 s.2.2.1 32,s.2.2.2)
def O8(s:Q4):Q4:=V5 (s09 (aaz (aaq (ZE (Zh (XR (XT (WF (V6 s)))))))))
def pf:Nat→Q4→Q4
 |0,s=>s
 |n+1,s=>pf n (O8 s)
theorem qd{h:ae}{b i:Nat}{t:TypeId}{s s':Q4}{v:Value}{k:ae→Prop}(j:h[b]? =some (.cells (q4 s) t (0,0))) (e:(q4 s).setIfInBounds i v=q4 s')
  (g:∀c,c[b]? =some (.cells (q4 s') t (0,0))→Upd (· =b) h c→k c):At (hset h ⟨b,i,none⟩ v) k:=
 Bq j fun c d f=>g c (e▸d) f
theorem JH{n:Nat}(hn:n≤100){h:ae}{b:Nat}{t:TypeId}{s:Q4}(E:h[b]? =some (.cells (q4 s) t (0,0))) {K:Unit→ae→Prop}
  (R:∀x,x[b]? =some (.cells (q4 (pf n s)) t (0,0))→Upd (· =b) h x→K () x):eJ 254 [gF b,.int .i64 n] K h:=by
 refine Bz _ _ ?_;dsimp only[tU,cg,ji,dy,K0,dq,Bw,Ma,Oi,Qf,VQ];refine LoopP.ghost (fun(g:Nat×Q4) (S:Int) x=>S=(g.1:Int)∧g.1≤n∧x[b]? =some (.cells (q4 g.2) t (0,0))∧Upd (· =b) h x∧pf (n-g.1) g.2=pf n s) (fun g=>n-g.1) (0,s) ⟨rfl,aY _,E,Upd.refl _ _,rfl⟩ ?_
 rintro I ⟨i,e⟩ S x ⟨T,hi,d,Q,A⟩ W;(try simp only at T hi d A)
 subst T;refine ak (fun y=>?_) fun U=>?_
 ·have y:i<n:=by omega
  have c:∀{h:ae} {s:Q4} {i:Nat},h[b]? =some (.cells (q4 s) t (0,0))→bh h ⟨b,0+i,none⟩=(q4 s)[i]?:=fun E=>by rw[bK];exact bO E
  have w:∀{h:ae} {s:Q4} {i:Nat},h[b]? =some (.cells (q4 s) t (0,0))→i<4→Wr h ⟨b,0+i,none⟩:=fun E hi=>by rw[bK];exact fz E hi
  simp only[show((0:Int)).toNat*1=0 from rfl,show((1:Int)).toNat*1=1 from rfl,show((2:Int)).toNat*1=2 from rfl,show((3:Int)).toNat*1=3 from rfl]
  refine⟨_,rfl,by decide,_,c (i:=0) d,_,rfl,by decide,_,c (i:=1) d,_,rfl,by decide,w (i:=0) d (by decide),qd (s':=V6 e) d rfl fun h2 m G=>?_⟩
  refine⟨_,rfl,by decide,_,c (i:=1) m,_,rfl,by decide,_,c (i:=0) m,_,rfl,DC ⟨c (i:=0) m,by decide,w (i:=1) m (by decide),qd (s':=WF (V6 e)) m rfl fun h3 z P=>?_⟩⟩
  refine⟨_,rfl,by decide,_,c (i:=0) z,_,rfl,DC ⟨by decide,w (i:=0) z (by decide),qd (s':=XT (WF (V6 e))) z rfl fun Y v F=>?_⟩⟩
  refine⟨_,rfl,by decide,_,c (i:=2) v,_,rfl,by decide,_,c (i:=3) v,_,rfl,by decide,w (i:=2) v (by decide),qd (s':=XR (XT (WF (V6 e)))) v rfl fun h5 j J=>?_⟩
  refine⟨_,rfl,by decide,_,c (i:=3) j,_,rfl,by decide,_,c (i:=2) j,_,rfl,DC ⟨c (i:=2) j,by decide,w (i:=3) j (by decide),qd (s':=Zh (XR (XT (WF (V6 e))))) j rfl fun h6 u H=>?_⟩⟩
  refine⟨_,rfl,by decide,_,c (i:=0) u,_,rfl,by decide,_,c (i:=3) u,_,rfl,by decide,w (i:=0) u (by decide),qd (s':=ZE (Zh (XR (XT (WF (V6 e)))))) u rfl fun h7 p L=>?_⟩
  refine⟨_,rfl,by decide,_,c (i:=3) p,_,rfl,by decide,_,c (i:=0) p,_,rfl,DC ⟨c (i:=0) p,by decide,w (i:=3) p (by decide),qd (s':=aaq (ZE (Zh (XR (XT (WF (V6 e))))))) p rfl fun Z q N=>?_⟩⟩
  refine⟨_,rfl,by decide,_,c (i:=2) q,_,rfl,by decide,_,c (i:=1) q,_,rfl,by decide,w (i:=2) q (by decide),qd (s':=aaz (aaq (ZE (Zh (XR (XT (WF (V6 e)))))))) q rfl fun h9 o O=>?_⟩
  refine⟨_,rfl,by decide,_,c (i:=1) o,_,rfl,by decide,_,c (i:=2) o,_,rfl,DC ⟨c (i:=2) o,by decide,w (i:=1) o (by decide),qd (s':=s09 (aaz (aaq (ZE (Zh (XR (XT (WF (V6 e))))))))) o rfl fun V f D=>?_⟩⟩
  refine⟨_,rfl,by decide,_,c (i:=2) f,_,rfl,DC ⟨by decide,w (i:=2) f (by decide),qd (s':=O8 e) f rfl fun X B C=>?_⟩⟩
  rw[cX y (by omega)];refine W (i+1,O8 e) _ _ ⟨rfl,y,B,Q.tr (G.tr (P.tr (F.tr (J.tr (H.tr (L.tr (N.tr (O.tr (D.tr C))))))))),?_⟩ (by(try simp only);omega);(try simp only)
  rw[←A,show n-i=(n-(i+1))+1 by omega];rfl
 ·obtain rfl:i=n:=by omega
  rw[di]at A;have A:e=pf i s:=A;rw[←A]at R;exact R _ d Q
end Go.Proofs
namespace Go.Proofs
open Go.Lift
def Xt(s:ByteArray)(i:Nat):Int:=match s[i]? with|some b=>(b.toNat:Int)|none=>0
def aap(b:Int)(n:Int):Int:=ac .u64 ((ac .u64 b)*2^(min n.toNat (aj .u64)))
def wj(s:ByteArray):Nat→Int→Int
 |0,t=>t
 |k+1,t=>wj s k (Ux t (if k=0 then ac .u64 (Xt s 0)else aap (Xt s k) ((8*k:Nat):Int)))
def Eu(s:ByteArray):Int:=wj s s.size 0
theorem qR{s:ByteArray}{i:Nat}(h:i<s.size):∃b,s[i]? =some b∧Xt s i=(b.toNat:Int):=⟨s[i],getElem?_pos s i h,by simp[Xt,getElem?_pos s i h]⟩
theorem Qw{s:ByteArray}(L:s.size≤8){h:ae}{K:Int→ae→Prop}(j:K (Eu s) h):qu 253 [.string s] K h:=by
 refine eM (H2 s) Qk Tryz.func253 Tryz.call253 ?_;dsimp only[H2,Bv];refine Join.intro (fun t f=>f=h∧1≤s.size∧wj s 1 t=wj s s.size 0) (fun R1 u=>?_) ?_
 ·refine Join.intro (fun t f=>f=h∧2≤s.size∧wj s 2 t=wj s s.size 0) (fun R2 p=>?_) ?_
  ·refine Join.intro (fun t f=>f=h∧3≤s.size∧wj s 3 t=wj s s.size 0) (fun I q=>?_) ?_
   ·refine Join.intro (fun t f=>f=h∧4≤s.size∧wj s 4 t=wj s s.size 0) (fun R4 o=>?_) ?_
    ·refine Join.intro (fun t f=>f=h∧5≤s.size∧wj s 5 t=wj s s.size 0) (fun O n=>?_) ?_
     ·refine Join.intro (fun t f=>f=h∧6≤s.size∧wj s 6 t=wj s s.size 0) (fun E v=>?_) ?_
      ·refine Join.intro (fun t f=>f=h∧7≤s.size∧wj s 7 t=wj s s.size 0) (fun R7 m=>?_) ?_
       ·refine CondP.intro (fun e=>?_) fun D=>?_
        ·have e:s.size=8:=by have:=of_decide_eq_true (by simpa using e:decide ((s.size:Int)=8)=true);omega
         obtain⟨b,c,hv⟩:=qR (s:=s) (i:=7) (by omega);refine⟨b,by decide,c,by decide,m _ _ ⟨rfl,by omega,?_⟩⟩
         rw[e,←hv];rfl
        refine CondP.intro (fun e=>?_) fun w=>?_
        ·have e:s.size=7:=by have:=of_decide_eq_true (by simpa using e:decide ((s.size:Int)=7)=true);omega
         exact m _ _ ⟨rfl,by omega,by rw[e]⟩
        refine CondP.intro (fun e=>?_) fun A=>?_
        ·have e:s.size=6:=by have:=of_decide_eq_true (by simpa using e:decide ((s.size:Int)=6)=true);omega
         exact v _ _ ⟨rfl,by omega,by rw[e]⟩
        refine CondP.intro (fun e=>?_) fun z=>?_
        ·have e:s.size=5:=by have:=of_decide_eq_true (by simpa using e:decide ((s.size:Int)=5)=true);omega
         exact n _ _ ⟨rfl,by omega,by rw[e]⟩
        refine CondP.intro (fun e=>?_) fun C=>?_
        ·have e:s.size=4:=by have:=of_decide_eq_true (by simpa using e:decide ((s.size:Int)=4)=true);omega
         exact o _ _ ⟨rfl,by omega,by rw[e]⟩
        refine CondP.intro (fun e=>?_) fun y=>?_
        ·have e:s.size=3:=by have:=of_decide_eq_true (by simpa using e:decide ((s.size:Int)=3)=true);omega
         exact q _ _ ⟨rfl,by omega,by rw[e]⟩
        refine CondP.intro (fun e=>?_) fun B=>?_
        ·have e:s.size=2:=by have:=of_decide_eq_true (by simpa using e:decide ((s.size:Int)=2)=true);omega
         exact p _ _ ⟨rfl,by omega,by rw[e]⟩
        refine CondP.intro (fun e=>?_) fun x=>?_
        ·have e:s.size=1:=by have:=of_decide_eq_true (by simpa using e:decide ((s.size:Int)=1)=true);omega
         exact u _ _ ⟨rfl,by omega,by rw[e]⟩
        have e:s.size=0:=by
         have Q:¬(s.size:Int)=1:=by simpa using x
         have G:¬(s.size:Int)=2:=by simpa using B
         have J:¬(s.size:Int)=3:=by simpa using y
         have q4:¬(s.size:Int)=4:=by simpa using C
         have P:¬(s.size:Int)=5:=by simpa using z
         have F:¬(s.size:Int)=6:=by simpa using A
         have H:¬(s.size:Int)=7:=by simpa using w
         have N:¬(s.size:Int)=8:=by simpa using D
         omega
        unfold Eu at j;rw[e]at j;exact j
       ·rintro t _ ⟨rfl,d,g⟩
        obtain⟨b,c,hv⟩:=qR (s:=s) (i:=6) (by omega);refine⟨b,by decide,c,by decide,v _ _ ⟨rfl,by omega,?_⟩⟩
        rw[←g,←hv];rfl
      ·rintro t _ ⟨rfl,d,g⟩
       obtain⟨b,c,hv⟩:=qR (s:=s) (i:=5) (by omega);refine⟨b,by decide,c,by decide,n _ _ ⟨rfl,by omega,?_⟩⟩
       rw[←g,←hv];rfl
     ·rintro t _ ⟨rfl,d,g⟩
      obtain⟨b,c,hv⟩:=qR (s:=s) (i:=4) (by omega);refine⟨b,by decide,c,by decide,o _ _ ⟨rfl,by omega,?_⟩⟩
      rw[←g,←hv];rfl
    ·rintro t _ ⟨rfl,d,g⟩
     obtain⟨b,c,hv⟩:=qR (s:=s) (i:=3) (by omega);refine⟨b,by decide,c,by decide,q _ _ ⟨rfl,by omega,?_⟩⟩
     rw[←g,←hv];rfl
   ·rintro t _ ⟨rfl,d,g⟩
    obtain⟨b,c,hv⟩:=qR (s:=s) (i:=2) (by omega);refine⟨b,by decide,c,by decide,p _ _ ⟨rfl,by omega,?_⟩⟩
    rw[←g,←hv];rfl
  ·rintro t _ ⟨rfl,d,g⟩
   obtain⟨b,c,hv⟩:=qR (s:=s) (i:=1) (by omega);refine⟨b,by decide,c,by decide,u _ _ ⟨rfl,by omega,?_⟩⟩
   rw[←g,←hv];rfl
 ·rintro t _ ⟨rfl,d,g⟩
  obtain⟨b,c,hv⟩:=qR (s:=s) (i:=0) (by omega);refine⟨b,by decide,c,?_⟩
  unfold Eu at j;rw[←g]at j;rw[←hv];exact j
end Go.Proofs
namespace Go.Proofs
open Go.Lift
def Gm(m:Int)(s:Q4):Q4:=
 let r:=pf 2 (s.1,s.2.1,s.2.2.1,gj s.2.2.2 m)
 (gj r.1 m,r.2)
theorem QD{m:Int}{h:ae}{b:Nat}{t:TypeId}{s:Q4}(e:h[b]? =some (.cells (q4 s) t (0,0))) {K:Unit→ae→Prop}
  (j:∀h',h'[b]? =some (.cells (q4 (Gm m s)) t (0,0))→Upd (· =b) h h'→K () h'):eJ 252 [gF b,.int .u64 m] K h:=by
 refine Ed _ _ ?_;dsimp only[wN,ji,dy,sq,dq,Bw,Oi,cg,Qf];have c:∀{h:ae} {s:Q4} {i:Nat},h[b]? =some (.cells (q4 s) t (0,0))→bh h ⟨b,0+i,none⟩=(q4 s)[i]?:=fun e=>by rw[bK];exact bO e
 have w:∀{h:ae} {s:Q4} {i:Nat},h[b]? =some (.cells (q4 s) t (0,0))→i<4→Wr h ⟨b,0+i,none⟩:=fun e hi=>by rw[bK];exact fz e hi
 simp only[show((0:Int)).toNat*1=0 from rfl,show((3:Int)).toNat*1=3 from rfl]
 refine⟨_,rfl,by decide,_,c (i:=3) e,_,rfl,by decide,w (i:=3) e (by decide),qd (s':=(s.1,s.2.1,s.2.2.1,gj s.2.2.2 m)) e rfl fun h2 o g=>?_⟩
 refine JH (n:=2) (by omega) o fun v d f=>?_
 have u:Gm m s=(gj (pf 2 (s.1,s.2.1,s.2.2.1,gj s.2.2.2 m)).1 m,(pf 2 (s.1,s.2.1,s.2.2.1,gj s.2.2.2 m)).2):=by unfold Gm;rfl
 rw[u]at j;generalize pf 2 (s.1,s.2.1,s.2.2.1,gj s.2.2.2 m)=r at d j;refine⟨_,rfl,by decide,_,c (i:=0) d,_,rfl,by decide,w (i:=0) d (by decide),qd (s':=(gj r.1 m,r.2)) d rfl fun x p q=>?_⟩
 exact j _ p (g.tr (f.tr q))
def Gp:Nat→ByteArray→Q4→ByteArray×Q4
 |0,s,q=>(s,q)
 |n+1,s,q=>if 8≤s.size then Gp n (s.extract 8 s.size) (Gm (Eu (s.extract 0 8)) q)else(s,q)
def aac(r:Q4):Int:=gj (gj (gj r.1 r.2.1) r.2.2.1) r.2.2.2
def aab(q:Q4):Int:=aac (pf 4 (q.1,q.2.1,gj q.2.2.1 255,q.2.2.2))
def aay(n:Nat)(g:ByteArray×Q4):Int:=aab (Gm (Ux (Eu g.1) (aap (n:Int) 56)) g.2)
def WA(k0 k1:Int)(s:ByteArray):Int:=
 aay s.size (Gp s.size s (gj k0 8317987319222330741,gj k1 7237128888997146477,gj k0 7816392313619706465,gj k1 8387220255154660723))
theorem Xm{d:ae}{b:Nat}{t:TypeId}{r:Q4}(j:d[b]? =some (.cells (q4 r) t (0,0))) {K:Int→Prop} (g:K (aac r)):
  (((0:Int)≤(0:Int)∧(0:Int)<((4:Nat):Int))∧
   ∃v30:Int,bh d (adr ⟨b,0,none⟩ ((0:Int).toNat*1))=some (.int .u64 v30)∧
   (((0:Int)≤(1:Int)∧(1:Int)<((4:Nat):Int))∧
    ∃v31:Int,bh d (adr ⟨b,0,none⟩ ((1:Int).toNat*1))=some (.int .u64 v31)∧
    Bd (ac .u64 (az (aj .u64) v30^^^az (aj .u64) v31).toNat:Int) (fun n32=>
     (((0:Int)≤(2:Int)∧(2:Int)<((4:Nat):Int))∧
      ∃v33:Int,bh d (adr ⟨b,0,none⟩ ((2:Int).toNat*1))=some (.int .u64 v33)∧
      Bd (ac .u64 (az (aj .u64) n32^^^az (aj .u64) v33).toNat:Int) (fun f=>
       (((0:Int)≤(3:Int)∧(3:Int)<((4:Nat):Int))∧
        ∃v35:Int,bh d (adr ⟨b,0,none⟩ ((3:Int).toNat*1))=some (.int .u64 v35)∧
        Bd (ac .u64 (az (aj .u64) f^^^az (aj .u64) v35).toNat:Int) (fun e=>
         K e))))))):=by
 have c:∀{i:Nat},bh d ⟨b,0+i,none⟩=(q4 r)[i]?:=by intro i;rw[bK];exact bO j
 exact⟨by decide,_,c (i:=0),by decide,_,c (i:=1),by decide,_,c (i:=2),by decide,_,c (i:=3),g⟩
theorem Xl{d:ae}{b:Nat}{t:TypeId}{q:Q4}(j:d[b]? =some (.cells (q4 q) t (0,0))) {K:Unit→ae→Prop}
  (u:∀h',h'[b]? =some (.cells (q4 (pf 4 (q.1,q.2.1,gj q.2.2.1 255,q.2.2.2))) t (0,0))→Upd (· =b) d h'→K () h'):
  (((0:Int)≤(2:Int)∧(2:Int)<((4:Nat):Int))∧
   ∃v25:Int,bh d (adr ⟨b,0,none⟩ ((2:Int).toNat*1))=some (.int .u64 v25)∧
   Bd (ac .u64 (az (aj .u64) v25^^^az (aj .u64) 255).toNat:Int) (fun m=>
    (((0:Int)≤(2:Int)∧(2:Int)<((4:Nat):Int))∧
     (Wr d (adr ⟨b,0,none⟩ ((2:Int).toNat*1))∧
      At (hset d (adr ⟨b,0,none⟩ ((2:Int).toNat*1)) (.int .u64 m)) (fun f=>
       eJ 254 [gF b,.int .i64 4] K f))))):=by
 have c:∀{i:Nat},bh d ⟨b,0+i,none⟩=(q4 q)[i]?:=by intro i;rw[bK];exact bO j
 refine⟨by decide,_,c (i:=2),by decide,by rw[show((2:Int)).toNat*1=2 from rfl,cM];exact fz j (by simp[q4]),?_⟩
 refine qd (s':=(q.1,q.2.1,gj q.2.2.1 255,q.2.2.2)) j rfl fun v g e=>?_
 exact JH (n:=4) (by omega) g fun s o p=>u s o (e.tr p)
theorem cP{h:ae}{k:ae→Prop}(b:k h):At h k:=b
theorem Yl{k0 k1:Int}{s:ByteArray}{h:ae}{K:Int→ae→Prop}(G:∀v,Upd No h v→K (WA k0 k1 s) v):qu 223 [.agg #[.int .u64 k0,.int .u64 k1],.string s] K h:=by
 refine eM (KF (k0,k1) s) Tp Tryz.func223 Tryz.call223 ?_;dsimp only[KF,cg,ji,au,nv,dy,Du,sq,ZF,Zl,Zt,Bw,Bv,Ma];have z:=Upd.hnew No h [.int .u64 k0,.int .u64 k1] 46;have b1:=cO h [.int .u64 k0,.int .u64 k1] 46;have N:=eI h [.int .u64 k0,.int .u64 k1] 46;refine cP ?_;simp only[dA h];generalize hnew h [.int .u64 k0,.int .u64 k1] 46=h1 at z b1 N
 refine⟨k0,by rw[cM,bO b1];rfl,k1,by rw[cM,bO b1];rfl,k0,by rw[cM,bO b1];rfl,k1,by rw[cM,bO b1];rfl,?_⟩
 have J:=Upd.hnew No h1 [.int .u64 0,.int .u64 0,.int .u64 0,.int .u64 0] 364;have b2:=cO h1 [.int .u64 0,.int .u64 0,.int .u64 0,.int .u64 0] 364;simp only[dA h1];simp only[Bd];refine cP ?_;refine⟨.inr ⟨_,rfl,fun j L=>by rw[cM];exact fz b2 (by simp at L⊢;omega)⟩,?_⟩
 refine cP ?_;rw[gQ _ _ 0 0 _ b2 (by simp)];have b3:=dU (o:=.cells (q4 (gj k0 8317987319222330741,gj k1 7237128888997146477,gj k0 7816392313619706465,gj k1 8387220255154660723)) 364 (0,0)) b2;have H:Upd No h _:=z.tr (J.trans (M':=(· =h1.size)) (Upd.set (hnew h1 [.int .u64 0,.int .u64 0,.int .u64 0,.int .u64 0] 364) (.cells (q4 (gj k0 8317987319222330741,gj k1 7237128888997146477,gj k0 7816392313619706465,gj k1 8387220255154660723)) 364 (0,0)) rfl) fun b e=>.inr (Nat.le_of_eq e.symm))
 refine LoopP.ghost (fun(g:Nat×Q4) (d:ByteArray) v=>d.size≤g.1∧v[h1.size]? =some (.cells (q4 g.2) 364 (0,0))∧Upd No h v∧Gp g.1 d g.2=Gp s.size s (gj k0 8317987319222330741,gj k1 7237128888997146477,gj k0 7816392313619706465,gj k1 8387220255154660723)) (fun g=>g.1) (s.size,_)
  ⟨ai _,b3,H,rfl⟩ ?_
 rintro I ⟨n,q⟩ d v ⟨P,e,E,y⟩ O;(try simp only at P e y)
 have p:∀b,b=h1.size→No b∨h.size≤b:=fun b e=>.inr (by omega)
 refine ak (fun x=>?_) fun A=>?_
 ·have x:8≤d.size:=by omega
  cases n with
  |zero=>omega
  |succ n=>
   refine⟨by omega,Qw (by rw[ByteArray.size_extract];show min 8 _-0≤8;omega) (QD e fun h2 f u=>⟨by omega,?_⟩)⟩
   have Q:((8:Int)).toNat=8:=rfl;rw[Q]at f⊢;refine O (n,Gm (Eu (d.extract 0 8)) q) _ _ ⟨by simp only[ByteArray.size_extract];omega,f,E.trans u p,?_⟩ (by(try simp only);omega);rw[←y];simp only[Gp,if_pos x]
 ·have A:d.size<8:=by omega
  have y:(d,q)=Gp s.size s (gj k0 8317987319222330741,gj k1 7237128888997146477,gj k0 7816392313619706465,gj k1 8387220255154660723):=by
   rw[←y];cases n with
   |zero=>rfl
   |succ n=>simp only[Gp,if_neg (show ¬8≤d.size by omega)]
  have c:∀{h:ae} {s:Q4} {i:Nat},h[h1.size]? =some (.cells (q4 s) 364 (0,0))→bh h ⟨h1.size,0+i,none⟩=(q4 s)[i]?:=fun e=>by rw[bK];exact bO e
  have w:∀{h:ae} {s:Q4} {i:Nat},h[h1.size]? =some (.cells (q4 s) 364 (0,0))→i<4→Wr h ⟨h1.size,0+i,none⟩:=fun e hi=>by rw[bK];exact fz e hi
  have B:WA k0 k1 s=aab (Gm (Ux (Eu d) (aap (s.size:Int) 56)) q):=by unfold WA;rw[←y];rfl
  rw[B]at G;refine Qw (by omega) ⟨by decide,QD (m:=Ux (Eu d) (aap (s.size:Int) 56)) e fun h2 f u=>?_⟩
  refine Xl f fun F D C=>Xm (K:=fun n=>K n F) D ?_
  exact G F ((E.trans u p).trans C p)
structure Hs where
 k0:Int
 k1:Int
 mask:Int
def jZ(h:Hs)(s:ByteArray):Int:=VL (WA h.k0 h.k1 s) h.mask
theorem Xd{x:Hs}{s:ByteArray}{h:ae}{K:Int→ae→Prop}(d:∀h',Upd No h h'→K (jZ x s) h'):qu 185 [.agg #[.int .u64 x.k0,.int .u64 x.k1,.int .u64 x.mask],.string s] K h:=by
 refine eM (uW (x.k0,x.k1,x.mask) s) .nil Tryz.func185 Tryz.call185 ?_;unfold uW au db EL Zz;have b:=Upd.hnew No h [.int .u64 x.k0,.int .u64 x.k1,.int .u64 x.mask] 48;have b1:=cO h [.int .u64 x.k0,.int .u64 x.k1,.int .u64 x.mask] 48;simp only[At,dA h];generalize hnew h [.int .u64 x.k0,.int .u64 x.k1,.int .u64 x.mask] 48=h1 at b b1;refine⟨x.k0,by rw[cM,cM,bO b1];rfl,x.k1,by rw[cM,cM,bO b1];rfl,x.mask,by rw[cM,bO b1];rfl,?_⟩
 refine Yl fun h2 c=>⟨by rw[cM,bO (c.get0 b1)];rfl,d _ (b.tr c)⟩
theorem NP(x:Hs)(s:ByteArray):0≤jZ x s∧jZ x s<18446744073709551616:=OJ _
end Go.Proofs
namespace Go.Proofs
open Go Go.Lift
abbrev fw(x:ByteArray×ByteArray):List Value:= [.string x.1,.string x.2]
theorem kj(x:ByteArray×ByteArray):(fw x).length=2∧0<2:=⟨rfl,by omega⟩
theorem zT:∀xs:List (ByteArray×ByteArray),cF (xs.flatMap fw)=true
 | []=>rfl
 |x::xs=>by rw[aZ];exact jX rfl (zT xs)
theorem Lq{h:ae}{c b o d e f cb:Nat}{g cw:Array Value}{i tb:TypeId}(hv:h[c]? =some (.cells g i (0,0))) (n:h[b]? =some (.cells cw tb (0,0))) (p:c≠b) (q:cw.size≠0) {K:Bool→ae→Prop} (m:K false h):
  f5 284 [.slice (some ⟨c,0,none⟩) d e,.slice (some ⟨b,o,none⟩) f cb] K h:=by
 refine⟨fun w j=>.inr ⟨.bool false,w,?_,Tame.refl w,false,rfl,j▸m⟩⟩
 subst j;rw[sL];have:=Lib.run_overlaps_apart (P:=PG) w 143 4 201 (by kernel_rfl) (cx PG 201) (uv (by kernel_rfl)) ⟨c,0,none⟩ ⟨b,o,none⟩ d e f cb p i tb g.size cw.size
  (by simp[World.shape?,hv]) (by simp[World.shape?,n]) q (by simp[World.frozen?,hv]) (by simp[World.frozen?,hv])
 rw[show([Value.slice (some ⟨c,0,none⟩) d e,Value.slice (some ⟨b,o,none⟩) f cb]:List Value).toArray= #[.slice (some ⟨c,0,none⟩) d e,.slice (some ⟨b,o,none⟩) f cb]from rfl,this]
 rfl
set_option maxRecDepth 4000 in
theorem PT{M:Nat→Prop}{h:ae}{s:SliceV}{xs:List (ByteArray×ByteArray)}(W:OwnS fw 2 201 M h s xs){k:Nat}(hkl:k≤xs.length)(hn:(xs.length+1)*32≤140737488355328){x:ByteArray×ByteArray}{n:Nat}(hv:h[n]? =some (.cells (fw x).toArray 201 (0,0)))
  (hvM:¬M n) (hM:∀b,h.size≤b→M b) {K:SliceV→ae→Prop} (hK:∀s' H,OwnS fw 2 201 M H s' (xs.take k++x::xs.drop k)→Upd M h H→K s' H):
  fU 263 [.slice s.a s.len s.cap,.int .i64 k,.slice (some ⟨n,0,none⟩) 1 1] K h:=by
 refine eM (iy s k ⟨some ⟨n,0,none⟩,1,1⟩) ni Tryz.func263 Tryz.call263 ?_;dsimp only[iy,ja,pq,pQ,IX,FB,Of];have o:=W.len;have hcap:=W.cap;have L:SRow h (some ⟨n,0,none⟩) (1*2) (fw x):=⟨rfl,.inr ⟨_,rfl,zJ hv fun i v hi=>by simpa using hi⟩⟩
 refine⟨by omega,ay.2 ?_⟩;refine CondP.intro (fun e=>?_) fun e=>?_
 ·have e:k=xs.length:=by have:=of_decide_eq_true (by simpa using e:decide ((k:Int)=(s.len:Int))=true);omega
  subst e;refine⟨_,L,AppP.own (ys:= [x]) W rfl (by simp) rfl rfl (by omega) (by simp;omega) (hM _ (ai _)) fun s' H ho hu=>hK s' H ?_ hu⟩
  rw[cG,gS];exact ho
 have hlt:k<xs.length:=by
  rcases dB k xs.length with h|h
  ·exact h
  ·have:((k:Int)==(s.len:Int))=true:=by rw[beq_iff_eq];omega
   rw[this]at e;cases e
 rcases W.blk with h0|⟨b,j,ha,y,hc,hr⟩
 ·omega
 have m:((xs.take k).flatMap fw).length=k*2:=by rw[pp kj,aL,cr hkl]
 have u:((xs.drop k).flatMap fw).length=(xs.length-k)*2:=by rw[pp kj,aW]
 have T:n≠b:=fun e=>hvM (e▸y)
 rw[Hq (f:=fw) xs k]at hc;have c:(xs.take k++x::xs.drop k).flatMap fw=(xs.take k).flatMap fw++(fw x++(xs.drop k).flatMap fw):=by rw[cQ,aZ]
 have g:=zT (xs.drop k);have d:(fw x).length=2:=rfl;have D:cF (fw x)=true:=rfl;generalize hAe:(xs.take k).flatMap fw=A at m hc c;generalize hBe:(xs.drop k).flatMap fw=B at u hc c g;generalize fw x=X at L d hv c D;rw[ha];have w1:ac .i64 ((xs.length:Int)+((1:Nat):Int))=((xs.length+1:Nat):Int):=by rw[dL (by omega)];omega
 have w2:ac .i64 ((k:Int)+((1:Nat):Int))=((k+1:Nat):Int):=by rw[dL (by omega)];omega
 have w3:ac .i64 (((xs.length+1:Nat):Int)-(k:Int))=((xs.length+1-k:Nat):Int):=by rw[dL (by omega)];omega
 simp only[w1,w2,w3,bQ,o];refine ak (fun hgt=>?_) fun hle=>?_
 ·
  have N:s.cap=xs.length:=by omega
  refine Join.plain ⟨by omega,⟨by omega,by omega,by omega,by omega⟩,fun hin=>?_,fun O=>?_⟩
  ·omega
  ·refine⟨A,_,?_,rfl,by omega,Go.growslice_fits O (by omega),fun F z=>?_⟩
   ·rw[sub_zero]
    exact rq hc (by rw[m];omega) (by simp only[dJ,ec];rw[aw,←m,iq (ai _),cG])
   ·simp only[bQ]at z⊢
    have V:=Upd.hnew No h (A++fb (xs.length+1-k) [.string (⟨#[]⟩:ByteArray),.string (⟨#[]⟩:ByteArray)]++fb (F-(k-0+(xs.length+1-k))) [.string (⟨#[]⟩:ByteArray),.string (⟨#[]⟩:ByteArray)]) 201;have bn:=cO h (A++fb (xs.length+1-k) [.string (⟨#[]⟩:ByteArray),.string (⟨#[]⟩:ByteArray)]++fb (F-(k-0+(xs.length+1-k))) [.string (⟨#[]⟩:ByteArray),.string (⟨#[]⟩:ByteArray)]) 201;have E:(fb (xs.length+1-k) [.string (⟨#[]⟩:ByteArray),.string (⟨#[]⟩:ByteArray)]).length=(xs.length+1-k)*2:=qE _ _
    have hz2:(fb (F-(k-0+(xs.length+1-k))) [.string (⟨#[]⟩:ByteArray),.string (⟨#[]⟩:ByteArray)]).length=(F-(k-0+(xs.length+1-k)))*2:=qE _ _;have w:k-0+(xs.length+1-k)=xs.length+1:=by omega
    rw[dA];have hsz:h.size≠n:=fun e=>by have:=bc hv;omega
    have P:h.size≠b:=fun e=>by have:=bc hc;omega
    have S:=V.get0 hc;have G:=V.get0 hv;generalize hnew h _ 201=h9 at V bn S G;rw[w]at z hz2⊢;have Y:fX 1 (xs.length+1-k)=1:=cr (by omega);have m2:fX (xs.length-k) (xs.length+1-(k+1))=xs.length-k:=cr (by omega);rw[Y];have xr9:SRow h9 (some ⟨n,0,none⟩) (1*2) X:=rq G (by rw[d]) (by rw[dJ,bL];rw[d];omega);refine⟨by omega,?_⟩
    rw[pa (by omega)];refine qQ xr9 D bn (by simp only[af,m,E];omega) fun h11 I p=>⟨by omega,?_⟩
    simp only[Bd];rw[pa (by omega),pa (by omega),m2];refine⟨by omega,?_⟩;have C:=p.get S (fun e=>P e.symm)
    have br:SRow h11 (some ⟨b,0+k*2,none⟩) ((xs.length-k)*2) B:=rq C u (by
     rw[bK,aw,←m,kP,←u,kO])
    refine qQ br g I ?_ fun h16 Q J=>?_
    ·simp only[af,aL,aW,m,E,d];omega
    ·refine hK _ _ ⟨by simp;omega,kj,z,.inr ⟨h.size,fb (F-(xs.length+1)) [.string (⟨#[]⟩:ByteArray),.string (⟨#[]⟩:ByteArray)],rfl,hM _ (ai _),?_,by rw[qE];rfl⟩⟩ ((V.wide.trans (M':=(· =h.size)) p fun b y=>.inl (y▸hM _ (ai _))).trans (M':=(· =h.size)) J fun b y=>.inl (y▸hM _ (ai _)))
     rw[Q,c];have:=QZ (A:=A) (X:=X) (B:=B) (Z1:=fb (xs.length+1-k) [.string (⟨#[]⟩:ByteArray),.string (⟨#[]⟩:ByteArray)]) (Z2:=fb (F-(xs.length+1)) [.string (⟨#[]⟩:ByteArray),.string (⟨#[]⟩:ByteArray)]) (r:=(xs.length-k)*2) m d (by rw[E,←lU];congr 1;omega);rw[w,←this];simp only[bK,lU]
 ·have N:xs.length+1≤s.cap:=by omega
  refine⟨by omega,?_⟩;simp only[Bd,ec];rw[sub_zero,pa (show s.cap≠k+1 by omega),pa (show s.cap≠k by omega)]
  refine⟨by omega,?_⟩;have hrl:2≤j.length:=by rw[hr];exact Nat.le_mul_of_pos_left _ (by omega)
  refine Lq hv hc T (by rw[dD,af];omega) ?_;refine aV.2 ⟨by omega,by omega,?_⟩
  have Y:fX 1 (xs.length+1-k)=1:=cr (by omega);have m2:fX (xs.length+1-k) (xs.length+1-(k+1))=xs.length-k:=by
   rw[show xs.length+1-(k+1)=xs.length-k by omega];exact Nat.min_eq_right (by omega)
  rw[m2];have br:SRow h (some ⟨b,0+k*2,none⟩) ((xs.length-k)*2) B:=rq hc u (by
   rw[bK,aw,←m,kP,←u,kO])
  refine qQ br g hc (by simp only[af,m,u];omega) fun h1 hb1 U=>⟨by omega,?_⟩
  rw[Y];have xr1:SRow h1 (some ⟨n,0,none⟩) (1*2) X:=rq (U.get hv T) (by rw[d]) (by rw[dJ,bL];rw[d];omega);refine qQ xr1 D hb1 (by simp only[af,aL,aW,m,u];omega) fun h2 hb2 Z=>?_
  refine hK _ _ ⟨by simp;omega,kj,N,.inr ⟨b,j.drop 2,rfl,y,?_,?_⟩⟩ ((U.mono fun _ e=>.inl (e▸y)).tr (Z.mono fun _ e=>.inl (e▸y)))
  ·rw[hb2,c]
   have:=UO (A:=A) (X:=X) (B:=B) (R:=j) (q:=2) (r:=(xs.length-k)*2) m u hrl;rw[←this];simp only[bK,lU]
  ·rw[aW,hr]
   (try simp only)
   rw[o];omega
abbrev tE(x:Option Addr):List Value:= [.pointer x]
theorem rr(x:Option Addr):(tE x).length=1∧0<1:=⟨rfl,by omega⟩
theorem FU:∀xs:List (Option Addr),cF (xs.flatMap tE)=true
 | []=>rfl
 |x::xs=>by rw[aZ];exact jX rfl (FU xs)
theorem Lr{h:ae}{c b o d e f cb:Nat}{g cw:Array Value}{i tb:TypeId}(hv:h[c]? =some (.cells g i (0,0))) (n:h[b]? =some (.cells cw tb (0,0))) (p:c≠b) (q:cw.size≠0) {K:Bool→ae→Prop} (m:K false h):
  f5 286 [.slice (some ⟨c,0,none⟩) d e,.slice (some ⟨b,o,none⟩) f cb] K h:=by
 refine⟨fun w j=>.inr ⟨.bool false,w,?_,Tame.refl w,false,rfl,j▸m⟩⟩
 subst j;rw[qU];have:=Lib.run_overlaps_apart (P:=PG) w 308 4 98 (by kernel_rfl) (cx PG 98) (uv (by kernel_rfl)) ⟨c,0,none⟩ ⟨b,o,none⟩ d e f cb p i tb g.size cw.size
  (by simp[World.shape?,hv]) (by simp[World.shape?,n]) q (by simp[World.frozen?,hv]) (by simp[World.frozen?,hv])
 rw[show([Value.slice (some ⟨c,0,none⟩) d e,Value.slice (some ⟨b,o,none⟩) f cb]:List Value).toArray= #[.slice (some ⟨c,0,none⟩) d e,.slice (some ⟨b,o,none⟩) f cb]from rfl,this]
 rfl
set_option maxRecDepth 4000 in
theorem PU{M:Nat→Prop}{h:ae}{s:SliceV}{xs:List (Option Addr)}(W:OwnS tE 1 98 M h s xs){k:Nat}(hkl:k≤xs.length)(hn:(xs.length+1)*8≤140737488355328){x:Option Addr}{n:Nat}(hv:h[n]? =some (.cells (tE x).toArray 98 (0,0)))
  (hvM:¬M n) (hM:∀b,h.size≤b→M b) {K:SliceV→ae→Prop} (hK:∀s' H,OwnS tE 1 98 M H s' (xs.take k++x::xs.drop k)→Upd M h H→K s' H):
  fU 266 [.slice s.a s.len s.cap,.int .i64 k,.slice (some ⟨n,0,none⟩) 1 1] K h:=by
 refine eM (gn s k ⟨some ⟨n,0,none⟩,1,1⟩) lP Tryz.func266 Tryz.call266 ?_;dsimp only[gn,pq,pQ,IX,FB,Of];have o:=W.len;have hcap:=W.cap;have L:SRow h (some ⟨n,0,none⟩) (1*1) (tE x):=⟨rfl,.inr ⟨_,rfl,zJ hv fun i v hi=>by simpa using hi⟩⟩
 refine⟨by omega,ay.2 ?_⟩;refine CondP.intro (fun e=>?_) fun e=>?_
 ·have e:k=xs.length:=by have:=of_decide_eq_true (by simpa using e:decide ((k:Int)=(s.len:Int))=true);omega
  subst e;refine⟨_,L,AppP.own (ys:= [x]) W rfl (by simp) rfl rfl (by omega) (by simp;omega) (hM _ (ai _)) fun s' H ho hu=>hK s' H ?_ hu⟩
  rw[cG,gS];exact ho
 have hlt:k<xs.length:=by
  rcases dB k xs.length with h|h
  ·exact h
  ·have:((k:Int)==(s.len:Int))=true:=by rw[beq_iff_eq];omega
   rw[this]at e;cases e
 rcases W.blk with h0|⟨b,j,ha,y,hc,hr⟩
 ·omega
 have m:((xs.take k).flatMap tE).length=k*1:=by rw[pp rr,aL,cr hkl]
 have u:((xs.drop k).flatMap tE).length=(xs.length-k)*1:=by rw[pp rr,aW]
 have T:n≠b:=fun e=>hvM (e▸y)
 rw[Hq (f:=tE) xs k]at hc;have c:(xs.take k++x::xs.drop k).flatMap tE=(xs.take k).flatMap tE++(tE x++(xs.drop k).flatMap tE):=by rw[cQ,aZ]
 have g:=FU (xs.drop k);have d:(tE x).length=1:=rfl;have D:cF (tE x)=true:=rfl;generalize hAe:(xs.take k).flatMap tE=A at m hc c;generalize hBe:(xs.drop k).flatMap tE=B at u hc c g;generalize tE x=X at L d hv c D;rw[ha];have w1:ac .i64 ((xs.length:Int)+((1:Nat):Int))=((xs.length+1:Nat):Int):=by rw[dL (by omega)];omega
 have w2:ac .i64 ((k:Int)+((1:Nat):Int))=((k+1:Nat):Int):=by rw[dL (by omega)];omega
 have w3:ac .i64 (((xs.length+1:Nat):Int)-(k:Int))=((xs.length+1-k:Nat):Int):=by rw[dL (by omega)];omega
 simp only[w1,w2,w3,bQ,o];refine ak (fun hgt=>?_) fun hle=>?_
 ·
  have N:s.cap=xs.length:=by omega
  refine Join.plain ⟨by omega,⟨by omega,by omega,by omega,by omega⟩,fun hin=>?_,fun O=>?_⟩
  ·omega
  ·refine⟨A,_,?_,rfl,by omega,Go.growslice_fits O (by omega),fun F z=>?_⟩
   ·rw[sub_zero]
    exact rq hc (by rw[m];omega) (by simp only[dJ,ec];rw[aw,←m,iq (ai _),cG])
   ·simp only[bQ]at z⊢
    have V:=Upd.hnew No h (A++fb (xs.length+1-k) [.pointer none]++fb (F-(k-0+(xs.length+1-k))) [.pointer none]) 98;have bn:=cO h (A++fb (xs.length+1-k) [.pointer none]++fb (F-(k-0+(xs.length+1-k))) [.pointer none]) 98;have E:(fb (xs.length+1-k) [.pointer none]).length=(xs.length+1-k)*1:=qE _ _;have hz2:(fb (F-(k-0+(xs.length+1-k))) [.pointer none]).length=(F-(k-0+(xs.length+1-k)))*1:=qE _ _
    have w:k-0+(xs.length+1-k)=xs.length+1:=by omega
    rw[dA];have hsz:h.size≠n:=fun e=>by have:=bc hv;omega
    have P:h.size≠b:=fun e=>by have:=bc hc;omega
    have S:=V.get0 hc;have G:=V.get0 hv;generalize hnew h _ 98=h9 at V bn S G;rw[w]at z hz2⊢;have Y:fX 1 (xs.length+1-k)=1:=cr (by omega);have m2:fX (xs.length-k) (xs.length+1-(k+1))=xs.length-k:=cr (by omega);rw[Y];have xr9:SRow h9 (some ⟨n,0,none⟩) (1*1) X:=rq G (by rw[d]) (by rw[dJ,bL];rw[d];omega);refine⟨by omega,?_⟩
    rw[pa (by omega)];refine qQ xr9 D bn (by simp only[af,m,E];omega) fun h11 I p=>⟨by omega,?_⟩
    simp only[Bd];rw[pa (by omega),pa (by omega),m2];refine⟨by omega,?_⟩;have C:=p.get S (fun e=>P e.symm)
    have br:SRow h11 (some ⟨b,0+k*1,none⟩) ((xs.length-k)*1) B:=rq C u (by
     rw[bK,aw,←m,kP,←u,kO])
    refine qQ br g I ?_ fun h16 Q J=>?_
    ·simp only[af,aL,aW,m,E,d];omega
    ·refine hK _ _ ⟨by simp;omega,rr,z,.inr ⟨h.size,fb (F-(xs.length+1)) [.pointer none],rfl,hM _ (ai _),?_,by rw[qE];rfl⟩⟩ ((V.wide.trans (M':=(· =h.size)) p fun b y=>.inl (y▸hM _ (ai _))).trans (M':=(· =h.size)) J fun b y=>.inl (y▸hM _ (ai _)))
     rw[Q,c];have:=QZ (A:=A) (X:=X) (B:=B) (Z1:=fb (xs.length+1-k) [.pointer none]) (Z2:=fb (F-(xs.length+1)) [.pointer none]) (r:=(xs.length-k)*1) m d (by rw[E,←lU];congr 1;omega);rw[w,←this];simp only[bK,lU]
 ·have N:xs.length+1≤s.cap:=by omega
  refine⟨by omega,?_⟩;simp only[Bd,ec];rw[sub_zero,pa (show s.cap≠k+1 by omega),pa (show s.cap≠k by omega)]
  refine⟨by omega,?_⟩;have hrl:1≤j.length:=by rw[hr];exact Nat.le_mul_of_pos_left _ (by omega)
  refine Lr hv hc T (by rw[dD,af];omega) ?_;refine aV.2 ⟨by omega,by omega,?_⟩
  have Y:fX 1 (xs.length+1-k)=1:=cr (by omega);have m2:fX (xs.length+1-k) (xs.length+1-(k+1))=xs.length-k:=by
   rw[show xs.length+1-(k+1)=xs.length-k by omega];exact Nat.min_eq_right (by omega)
  rw[m2];have br:SRow h (some ⟨b,0+k*1,none⟩) ((xs.length-k)*1) B:=rq hc u (by
   rw[bK,aw,←m,kP,←u,kO])
  refine qQ br g hc (by simp only[af,m,u];omega) fun h1 hb1 U=>⟨by omega,?_⟩
  rw[Y];have xr1:SRow h1 (some ⟨n,0,none⟩) (1*1) X:=rq (U.get hv T) (by rw[d]) (by rw[dJ,bL];rw[d];omega);refine qQ xr1 D hb1 (by simp only[af,aL,aW,m,u];omega) fun h2 hb2 Z=>?_
  refine hK _ _ ⟨by simp;omega,rr,N,.inr ⟨b,j.drop 1,rfl,y,?_,?_⟩⟩ ((U.mono fun _ e=>.inl (e▸y)).tr (Z.mono fun _ e=>.inl (e▸y)))
  ·rw[hb2,c]
   have:=UO (A:=A) (X:=X) (B:=B) (R:=j) (q:=1) (r:=(xs.length-k)*1) m u hrl;rw[←this];simp only[bK,lU]
  ·rw[aW,hr]
   (try simp only)
   rw[o];omega
abbrev My(x:Option Addr):List Value:= [.pointer x]
theorem DB(x:Option Addr):(My x).length=1∧0<1:=⟨rfl,by omega⟩
theorem QQ:∀xs:List (Option Addr),cF (xs.flatMap My)=true
 | []=>rfl
 |x::xs=>by rw[aZ];exact jX rfl (QQ xs)
end Go.Proofs
namespace Go.Proofs
open Go Go.Lift
theorem Aa{W:Nat→Prop}{h:ae}{s:SliceV}{xs:List (ByteArray×ByteArray)}(e:Sl fw 2 W h s xs)(p:xs.length*32≤140737488355328){K:SliceV→ae→Prop}
  (g:∀s' c,OwnS fw 2 201 (fun b=>h.size≤b) c s' xs→Upd No h c→K s' c):fU 160 [.slice s.a s.len s.cap] K h:=by
 refine eM (iW s) .nil Tryz.func160 Tryz.call160 ?_;unfold iW ja;refine CondP.intro (fun d=>?_) (fun m=>?_)
 ·have d:s.a=none:=by simpa using d
  have hx:xs= []:=by
   by_cases hx:xs= []
   ·exact hx
   ·obtain⟨a,i,_⟩:=e.row hx
    rw[d]at i;cases i
  subst hx;exact g _ _ (OwnS.nil kj) (Upd.refl _ _)
 ·have h2:=e.upd (Upd.hnew No h [] 201) (fun _ h=>h.elim)
  refine⟨_,h2.srow,?_⟩;refine AppP.own (f:=fw) (M:=fun b=>h.size≤b) (xs:= []) (ys:=xs) ⟨rfl,kj,ai _,.inl rfl⟩ e.len rfl (zT xs) rfl (by omega) (by simpa using p) (by rw[eI];omega) fun s' c j n=>?_
  exact g _ _ j ((Upd.hnew No h [] 201).trans n fun b o=>.inr o)
theorem P2{M:Nat→Prop}{h:ae}{s:SliceV}{xs:List (ByteArray×ByteArray)}(w:OwnS fw 2 201 M h s xs){k:Nat}(z:k<xs.length)(P:xs.length≤4398046511104)
  {K:SliceV→ae→Prop}(N:∀s' h',OwnS fw 2 201 M h' s' (xs.take k++xs.drop (k+1))→Upd M h h'→K s' h'):
  fU 281 [.slice s.a s.len s.cap,.int .i64 k,.int .i64 ((k+1:Nat):Int)] K h:=by
 refine eM (iz s k ((k+1:Nat):Int)) nr Tryz.func281 Tryz.call281 ?_;dsimp only[iz,ja,pq,pQ,XB];have g:=w.len;have F:=w.cap;rcases w.blk with Q|⟨b,c,J,E,hc,I⟩
 ·omega
 have q:((xs.take k).flatMap fw).length=k*2:=by rw[pp kj,aL,cr (by omega)]
 have n:((xs.drop (k+1)).flatMap fw).length=(xs.length-(k+1))*2:=by rw[pp kj,aW]
 have G:xs.flatMap fw=(xs.take k).flatMap fw++(fw xs[k]++(xs.drop (k+1)).flatMap fw):=by
  rw[←aZ,←cn z];exact Hq xs k
 rw[G]at hc;have f:=zT (xs.drop (k+1));have d:(xs.take k++xs.drop (k+1)).flatMap fw=(xs.take k).flatMap fw++(xs.drop (k+1)).flatMap fw:=cQ;have O:(fw xs[k]).length=2:=rfl;generalize (xs.take k).flatMap fw=A at q hc d;generalize (xs.drop (k+1)).flatMap fw=B at n hc f d;generalize fw xs[k]=X at O hc;rw[J];simp only[g,bQ];refine⟨by omega,by omega,by omega,CondP.intro (fun e=>?_) fun _=>?_⟩
 ·have:(k:Int)=((k+1:Nat):Int):=by simpa using e
  omega
 refine Join.plain ⟨by omega,by omega,B,?_,?_⟩
 ·by_cases j:xs.length=k+1
  ·exact⟨n,.inl (ax.1 (by rw[n,j,di,Nat.zero_mul]))⟩
  rw[pa (by omega)];refine rq hc n ?_;have:(A++X).length=0+(k+1)*2:=by rw[af];omega
  rw[show A++(X++B)++c=(A++X)++(B++c) by simp only[aw],dH this,dY n]
 ·rw[sub_zero]
  refine VG hc (by simp only[af];omega) (by omega) f fun R m y=>?_
  have x:c.length=(s.cap-xs.length)*2:=by rw[I,g]
  refine⟨by dsimp only;omega,by dsimp only;omega,?_⟩
  simp only[Bd];rw[pa (by omega)];have H:xs.length-(k-0+(xs.length-(k+1)))=1:=by omega
  have v:(A++(X++B)++c).drop ((k-0)*2+B.length)=(X++B).drop B.length++c:=by
   rw[aw,←cW,dH (show A.length=(k-0)*2 by rw[q,ec]),is (by rw[af];omega)]
  have C:(A++(X++B)++c).take ((k-0)*2)=A:=by rw[aw,dY (show A.length=(k-0)*2 by rw[q,ec])]
  rw[v,C]at m;have p:((X++B).drop B.length).length=2:=by rw[aW,af];omega
  generalize (X++B).drop B.length=D at p m;rw[H];have L:(fb 1 [.string (⟨#[]⟩:ByteArray),.string (⟨#[]⟩:ByteArray)]).length=2:=rfl;have i:(A++B).length=0+(k-0+(xs.length-(k+1)))*2:=by rw[af,q,n];omega
  refine QL m (by simp only[af]at i⊢;omega) fun h2 o u=>?_
  rw[dY i,←cW,dH i]at o;refine N _ _ ⟨by simp;omega,kj,by(try simp only);omega,.inr ⟨b,fb 1 [.string (⟨#[]⟩:ByteArray),.string (⟨#[]⟩:ByteArray)]++(D++c).drop (fb 1 [.string (⟨#[]⟩:ByteArray),.string (⟨#[]⟩:ByteArray)]).length,rfl,E,?_,?_⟩⟩ ((y.mono fun _ e=>.inl (e▸E)).tr (u.mono fun _ e=>.inl (e▸E)))
  ·rw[o,d];simp only[aw]
  ·simp only[af,aW,L,p,x]
   omega
theorem D5{W:Nat→Prop}{h:ae}{s:SliceV}{xs:List (Option Addr)}(e:Sl tE 1 W h s xs)(p:xs.length*8≤140737488355328){K:SliceV→ae→Prop}
  (g:∀s' c,OwnS tE 1 98 (fun b=>h.size≤b) c s' xs→Upd No h c→K s' c):fU 270 [.slice s.a s.len s.cap] K h:=by
 refine eM (gK s) .nil Tryz.func270 Tryz.call270 ?_;unfold gK;refine CondP.intro (fun d=>?_) (fun m=>?_)
 ·have d:s.a=none:=by simpa using d
  have hx:xs= []:=by
   by_cases hx:xs= []
   ·exact hx
   ·obtain⟨a,i,_⟩:=e.row hx
    rw[d]at i;cases i
  subst hx;exact g _ _ (OwnS.nil rr) (Upd.refl _ _)
 ·have h2:=e.upd (Upd.hnew No h [] 98) (fun _ h=>h.elim)
  refine⟨_,h2.srow,?_⟩;refine AppP.own (f:=tE) (M:=fun b=>h.size≤b) (xs:= []) (ys:=xs) ⟨rfl,rr,ai _,.inl rfl⟩ e.len rfl (FU xs) rfl (by omega) (by simpa using p) (by rw[eI];omega) fun s' c j n=>?_
  exact g _ _ j ((Upd.hnew No h [] 98).trans n fun b o=>.inr o)
theorem P3{M:Nat→Prop}{h:ae}{s:SliceV}{xs:List (Option Addr)}(w:OwnS tE 1 98 M h s xs){k:Nat}(z:k<xs.length)(P:xs.length≤4398046511104)
  {K:SliceV→ae→Prop}(N:∀s' h',OwnS tE 1 98 M h' s' (xs.take k++xs.drop (k+1))→Upd M h h'→K s' h'):
  fU 282 [.slice s.a s.len s.cap,.int .i64 k,.int .i64 ((k+1:Nat):Int)] K h:=by
 refine eM (gq s k ((k+1:Nat):Int)) lQ Tryz.func282 Tryz.call282 ?_;dsimp only[gq,pq,pQ,XB];have g:=w.len;have F:=w.cap;rcases w.blk with Q|⟨b,c,J,E,hc,I⟩
 ·omega
 have q:((xs.take k).flatMap tE).length=k*1:=by rw[pp rr,aL,cr (by omega)]
 have n:((xs.drop (k+1)).flatMap tE).length=(xs.length-(k+1))*1:=by rw[pp rr,aW]
 have G:xs.flatMap tE=(xs.take k).flatMap tE++(tE xs[k]++(xs.drop (k+1)).flatMap tE):=by
  rw[←aZ,←cn z];exact Hq xs k
 rw[G]at hc;have f:=FU (xs.drop (k+1));have d:(xs.take k++xs.drop (k+1)).flatMap tE=(xs.take k).flatMap tE++(xs.drop (k+1)).flatMap tE:=cQ;have O:(tE xs[k]).length=1:=rfl;generalize (xs.take k).flatMap tE=A at q hc d;generalize (xs.drop (k+1)).flatMap tE=B at n hc f d;generalize tE xs[k]=X at O hc;rw[J];simp only[g,bQ];refine⟨by omega,by omega,by omega,CondP.intro (fun e=>?_) fun _=>?_⟩
 ·have:(k:Int)=((k+1:Nat):Int):=by simpa using e
  omega
 refine Join.plain ⟨by omega,by omega,B,?_,?_⟩
 ·by_cases j:xs.length=k+1
  ·exact⟨n,.inl (ax.1 (by rw[n,j,di,Nat.zero_mul]))⟩
  rw[pa (by omega)];refine rq hc n ?_;have:(A++X).length=0+(k+1)*1:=by rw[af];omega
  rw[show A++(X++B)++c=(A++X)++(B++c) by simp only[aw],dH this,dY n]
 ·rw[sub_zero]
  refine VG hc (by simp only[af];omega) (by omega) f fun R m y=>?_
  have x:c.length=(s.cap-xs.length)*1:=by rw[I,g]
  refine⟨by dsimp only;omega,by dsimp only;omega,?_⟩
  simp only[Bd];rw[pa (by omega)];have H:xs.length-(k-0+(xs.length-(k+1)))=1:=by omega
  have v:(A++(X++B)++c).drop ((k-0)*1+B.length)=(X++B).drop B.length++c:=by
   rw[aw,←cW,dH (show A.length=(k-0)*1 by rw[q,ec]),is (by rw[af];omega)]
  have C:(A++(X++B)++c).take ((k-0)*1)=A:=by rw[aw,dY (show A.length=(k-0)*1 by rw[q,ec])]
  rw[v,C]at m;have p:((X++B).drop B.length).length=1:=by rw[aW,af];omega
  generalize (X++B).drop B.length=D at p m;rw[H];have L:(fb 1 [.pointer none]).length=1:=rfl;have i:(A++B).length=0+(k-0+(xs.length-(k+1)))*1:=by rw[af,q,n];omega
  refine QL m (by simp only[af]at i⊢;omega) fun h2 o u=>?_
  rw[dY i,←cW,dH i]at o;refine N _ _ ⟨by simp;omega,rr,by(try simp only);omega,.inr ⟨b,fb 1 [.pointer none]++(D++c).drop (fb 1 [.pointer none]).length,rfl,E,?_,?_⟩⟩ ((y.mono fun _ e=>.inl (e▸E)).tr (u.mono fun _ e=>.inl (e▸E)))
  ·rw[o,d];simp only[aw]
  ·simp only[af,aW,L,p,x]
   omega
theorem S6{W:Nat→Prop}{h:ae}{s:SliceV}{xs:List (Option Addr)}(e:Sl My 1 W h s xs)(p:xs.length*8≤140737488355328){K:SliceV→ae→Prop}
  (g:∀s' c,OwnS My 1 99 (fun b=>h.size≤b) c s' xs→Upd No h c→K s' c):fU 268 [.slice s.a s.len s.cap] K h:=by
 refine eM (gc s) .nil Tryz.func268 Tryz.call268 ?_;unfold gc;refine CondP.intro (fun d=>?_) (fun m=>?_)
 ·have d:s.a=none:=by simpa using d
  have hx:xs= []:=by
   by_cases hx:xs= []
   ·exact hx
   ·obtain⟨a,i,_⟩:=e.row hx
    rw[d]at i;cases i
  subst hx;exact g _ _ (OwnS.nil DB) (Upd.refl _ _)
 ·have h2:=e.upd (Upd.hnew No h [] 99) (fun _ h=>h.elim)
  refine⟨_,h2.srow,?_⟩;refine AppP.own (f:=My) (M:=fun b=>h.size≤b) (xs:= []) (ys:=xs) ⟨rfl,DB,ai _,.inl rfl⟩ e.len rfl (QQ xs) rfl (by omega) (by simpa using p) (by rw[eI];omega) fun s' c j n=>?_
  exact g _ _ j ((Upd.hnew No h [] 99).trans n fun b o=>.inr o)
end Go.Proofs
namespace Go.Proofs
open Go.Lift
abbrev Pr:=ByteArray×ByteArray
theorem Ac{a b:ByteArray}:a.toList=b.toList↔a=b:=by
 constructor
 ·intro h
  rw[ByteArray.toList_eq,ByteArray.toList_eq]at h;cases a;cases b;simp at h;subst h;rfl
 ·rintro rfl;rfl
def kl(a b:ByteArray):Prop:=bH a.toList b.toList=true
instance (a b:ByteArray):Decidable (kl a b):=inferInstanceAs (Decidable (_=true))
theorem PM{a b:ByteArray}:kl a b↔a.toList<b.toList:=by unfold kl;rw[bytesLess_eq,decide_eq_true_iff]
theorem dS(a:ByteArray):¬kl a a:=by rw[PM];exact List.lt_irrefl _
theorem ii{a b c:ByteArray}(h:kl a b)(k:kl b c):kl a c:=by rw[PM]at*;exact List.lt_trans h k
theorem tri:∀x y:List UInt8,bH x y=false→x≠y→bH y x=true
 | [],[],_,h=>absurd rfl h
 | [],_::_,h,_=>by simp[bH]at h
 |_::_,[],_,_=>rfl
 |a::x,b::y,h,hn=>by
  simp only[bH,Bool.or_eq_false_iff,decide_eq_false_iff_not,Bool.and_eq_false_iff]at h;simp only[bH,Bool.or_eq_true,decide_eq_true_iff,Bool.and_eq_true];by_cases e:a=b
  ·subst e
   right;refine⟨by simp,tri x y ?_ fun e=>hn (by rw[e])⟩
   rcases h.2 with h|h
   ·simp at h
   ·exact h
  ·left
   have c:=h.1;rw[UInt8.lt_iff_toNat_lt]at c⊢;have:a.toNat≠b.toNat:=fun h=>e (UInt8.toNat_inj.1 h)
   omega
theorem vF{a b:ByteArray}(h:¬kl a b)(k:a≠b):kl b a:=tri _ _ (by unfold kl at h;simpa using h) fun e=>k (Ac.1 e)
def Bo(a b:ByteArray):Int:=if kl a b then-1 else if a=b then 0 else 1
theorem NH{x:ByteArray}{h:ae}{K:Bool→ae→Prop}(b:K false h):f5 169 [.string x] K h:=by
 refine eM (yg x) .nil Tryz.func169 Tryz.call169 ?_;unfold yg;simpa using b
theorem P4{a b:ByteArray}{h:ae}{K:Int→ae→Prop}(c:K (Bo a b) h):iI 137 [.string a,.string b] K h:=by
 refine eM (vq a b) .nil Tryz.func137 Tryz.call137 ?_;unfold vq;refine NH (NH (ay.2 (ay.2 ?_)));unfold Bo at c;refine CondP.intro (fun e=>?_) fun e=>?_
 ·rw[if_pos (show kl a b from e)]at c;exact c
 ·have f:¬kl a b:=fun h=>by rw[show bH a.toList b.toList=true from h]at e;cases e
  rw[if_neg f]at c;rw[e];refine CondP.intro (fun d=>?_) fun d=>?_
  ·rw[if_neg (fun h=>by subst h;simp at d)]at c;exact c
  ·have:a.toList=b.toList:=by simpa using d
   rw[if_pos (Ac.1 this)]at c;exact c
theorem Nk{p:Pr}{k:ByteArray}{h:ae}{K:Int→ae→Prop}(b:∀h',Upd No h h'→K (Bo p.1 k) h'):iI 163 [.agg #[.string p.1,.string p.2],.string k] K h:=by
 refine eM (Da p k) .nil Tryz.func163 Tryz.call163 ?_;unfold Da cE iR xj;have b1:=cO h [.string p.1,.string p.2] 201;refine⟨p.1,by rw[dA,cM,bO b1];rfl,P4 (b _ (Upd.hnew No h _ _))⟩
abbrev fE(l:List Pr):Prop:=l.Pairwise fun p q=>kl p.1 q.1
def pos(l:List Pr)(k:ByteArray):Nat:=(l.takeWhile fun p=>decide (kl p.1 k)).length
def nQ(l:List Pr)(k:ByteArray):Bool:=l.any fun p=>decide (p.1=k)
theorem Ul{l:List Pr}{k:ByteArray}{i:Nat}(hi:i≤l.length)(b:∀j (h:j<l.length),j<i→kl l[j].1 k)(h2:∀(h:i<l.length),¬kl l[i].1 k):pos l k=i:=by
 unfold pos;induction l generalizing i with
 |nil=>simp at hi;simp[hi]
 |cons p l ih=>
  rw[List.takeWhile_cons];cases i with
  |zero=>
   have:=h2 (by simp);simp only[lm]at this;rw[if_neg (by simpa using this)];rfl
  |succ i=>
   have:=b 0 (by simp) (by omega);simp only[lm]at this;rw[if_pos (by simpa using this),av];congr 1
   refine ih (by simpa using hi) (fun j c d=>?_) fun h=>?_
   ·have:=b (j+1) (by simpa using c) (by omega)
    simpa using this
   ·have:=h2 (by simpa using h)
    simpa using this
theorem Yw(l:List Pr)(k:ByteArray):pos l k≤l.length:=by
 unfold pos;exact(List.takeWhile_prefix _).length_le
theorem Xk{W:Nat→Prop}{h:ae}{s:SliceV}{l:List Pr}(Y:Sl fw 2 W h s l)(hr:fE l)(hn:l.length≤1000000000)(k:ByteArray){K:Int×Bool→ae→Prop}
  (E:∀y,Upd No h y→K ((pos l k:Int),nQ l k) y):SN 275 [.slice s.a s.len s.cap,.string k] K h:=by
 refine eM (Fa s k) .nil Tryz.func275 Tryz.call275 ?_;unfold Fa;refine jq s k _ ?_;dsimp only[ff,nU,pN,FF,sM,ic,ji,CS,fG];have V:=Y.len;have L:∀{p:Pr} {h:ae} {K:Int→ae→Prop},(∀y,Upd No h y→K (Bo p.1 k) y)→HV PG (.func (.func 163) #[] #[]) [.agg #[.string p.1,.string p.2],.string k] [.c (.int .i64)] K h:=fun E=>HV.mk' (Nk E)
 refine LoopP.ghost (fun(g:Nat×Nat) (t:Int×Int) y=>t.1=(g.1:Int)∧t.2=(g.2:Int)∧g.1≤g.2∧g.2≤l.length∧Upd No h y∧(∀j (Q:j<l.length),j<g.1→kl l[j].1 k)∧(∀j (Q:j<l.length),g.2≤j→¬kl l[j].1 k)) (fun g=>g.2-g.1) (0,l.length)
  ⟨rfl,by(try simp only);omega,by simp,by simp,Upd.refl _ _,fun j Q h=>by omega,fun j Q h=>by(try simp only at h);omega⟩ ?_
 rintro I ⟨i,j⟩ ⟨ti,tj⟩ y ⟨U,Z,C,D,G,n,w⟩ X;(try simp only at U Z C D n w)
 subst U Z;have N:=Y.upd G fun _ h=>h.elim
 have mono:∀a b (F:a<l.length) (hb:b<l.length),a<b→kl l[a].1 l[b].1:=fun a b F hb T=>df.1 hr a b F hb T
 refine ak (fun u=>?_) fun P=>?_
 ·have u:i<j:=by have:(i:Int)<(j:Int):=u;omega
  have em:ac .i64 (fa (ac .u64 (ac .i64 ((i:Int)+(j:Int)))) (2^(min (1:Int).toNat (aj .u64))))=(((i+j)/2:Nat):Int):=by
   have e3:(2^(min (1:Int).toNat (aj .u64)):Int)=2:=rfl;rw[e3,dL (x:=(i:Int)+(j:Int)) (by omega),Go.IntWalk.u64_in _ (by omega),Int.fdiv_eq_ediv_of_nonneg _ (by omega),dL (by omega)];omega
  refine⟨by decide,?_⟩;simp only[Bd];rw[em];generalize hm:(i+j)/2=m;have B:m<l.length:=by omega
  obtain⟨a,F,_,hv⟩:=N.at (ag B);refine⟨by omega,a,F,l[m].1,hv 0 _ rfl,l[m].2,hv 1 _ rfl,L fun h2 v=>?_⟩
  refine ak (fun d=>?_) fun J=>?_
  ·have c:kl l[m].1 k:=by
    unfold Bo at d;by_cases c:kl l[m].1 k
    ·exact c
    ·rw[if_neg c]at d;split at d<;>omega
   refine X (m+1,j) _ _ ⟨by(try simp only);rw[dL (by omega)];omega,rfl,by(try simp only);omega,D,G.tr v,fun q z A=>?_,w⟩ (by(try simp only);omega)
   (try simp only at A)
   rcases dB q m with h|h
   ·exact ii (mono q m z B h) c
   ·have:q=m:=by omega
    subst this;exact c
  ·have o:¬kl l[m].1 k:=fun c=>J (by unfold Bo;rw[if_pos c];decide)
   refine X (i,m) _ _ ⟨rfl,rfl,by(try simp only);omega,by(try simp only);omega,G.tr v,n,fun q z A H=>?_⟩ (by(try simp only);omega)
   (try simp only at A)
   rcases dB m q with h|h
   ·exact o (ii (mono m q B z h) H)
   ·have:q=m:=by omega
    subst this;exact o H
 ·have C:i=j:=by have:¬(i:Int)<(j:Int):=P;omega
  subst C;have O:pos l k=i:=Ul D n fun hi=>w i hi (ai _)
  rw[O]at E;refine ak (fun u=>?_) fun S=>?_
  ·have f:i<l.length:=by have:(i:Int)<(s.len:Int):=u;omega
   obtain⟨a,F,_,hv⟩:=N.at (ag f);refine⟨by(try simp only);omega,a,F,l[i].1,hv 0 _ rfl,l[i].2,hv 1 _ rfl,L fun h2 v=>?_⟩
   have o:=w i f (ai _);have R:(Bo l[i].1 k==(0:Int))=nQ l k:=by
    unfold Bo nQ;rw[if_neg o,Bool.eq_iff_iff,dZ];constructor
    ·intro h
     split at h
     ·rename_i e;exact⟨l[i],List.getElem_mem f,decide_eq_true e⟩
     ·simp at h
    ·rintro⟨p,O,e⟩
     have e:=of_decide_eq_true e;obtain⟨q,z,rfl⟩:=dP.1 O;have:q=i:=by
      rcases Nat.lt_trichotomy q i with h|h|h
      ·exact absurd (e▸n q z h) (dS _)
      ·exact h
      ·exact absurd (e▸mono i q f z h) o
     subst this;rw[if_pos e];rfl
   rw[R];exact E _ (G.tr v)
  ·have f:i=l.length:=by have:¬(i:Int)<(s.len:Int):=S;omega
   have R:nQ l k=false:=by
    unfold nQ;rw[List.any_eq_false];intro p O e;have e:=of_decide_eq_true e;obtain⟨q,z,rfl⟩:=dP.1 O;exact absurd (e▸n q z (by omega)) (dS _)
   rw[R]at E;exact E _ G
end Go.Proofs
namespace Go.Proofs
open Go.Lift
theorem OwnS.zero{α:Type}{f:α→List Value}{sz:Nat}{t:TypeId}{M:Nat→Prop}{h:ae}{s:SliceV}{xs:List α}(d:OwnS f sz t M h s xs):OwnS f sz t M h ⟨bN s.a 0 s.cap sz,0-0,s.cap-0⟩ []:=by
 have e:∀x,(f x).length=sz∧0<sz:=d.ne;have i:=d.len;have g:=d.cap;refine⟨rfl,e,by simp only;omega,?_⟩
 rcases d.blk with o|⟨b,c,n,j,hc,m⟩
 ·exact .inl (by simp only;omega)
 ·refine .inr ⟨b,xs.flatMap f++c,by rw[n,sub_zero],j,hc,?_⟩
  rw[af,pp e,m,←Nat.add_mul];simp only;congr 1;omega
def zPr:Pr:=(⟨#[]⟩,⟨#[]⟩)
theorem Qt(n:Nat):fb n [.string (⟨#[]⟩:ByteArray),.string (⟨#[]⟩:ByteArray)]=(gg n zPr).flatMap fw:=by
 unfold fb;induction n with
 |zero=>rfl
 |succ n ih=>rw[nN,nN,aZ,←ih];rfl
theorem Xf{n:Nat}(m:n*32≤140737488355328){h:ae}{K:SliceV→ae→Prop}(d:∀s' c,OwnS fw 2 201 (fun b=>h.size≤b) c s' []→Upd No h c→K s' c):
  fU 291 [.slice none 0 0,.int .i64 n] K h:=by
 refine eM (jn ⟨none,0,0⟩ n) od Tryz.func291 Tryz.call291 ?_;unfold jn ja;have e:ac .i64 ((n:Int)-ac .i64 (((0:Nat):Int)-((0:Nat):Int)))=(n:Int):=by rw[dL (x:=((0:Nat):Int)-((0:Nat):Int)) (by omega),dL (by omega)];omega
 refine Join.plain (ak (fun h=>by omega) fun _=>?_)
 simp only[Bd];rw[e];refine ak (fun p=>?_) fun o=>d _ _ (OwnS.nil kj) (Upd.refl _ _)
 refine⟨by omega,⟨by omega,by omega,by omega,by omega⟩,?_⟩
 refine AppP.own (f:=fw) (M:=fun b=>h.size≤b) (xs:= []) (ys:=gg n zPr) (OwnS.nil kj) (by simp) (Qt _) (by rw[Qt];exact zT _) rfl (by omega) (by simpa using m) (ai _) fun s' c g i=>?_
 exact⟨by omega,d _ _ (OwnS.zero g) (i.mono fun b j=>.inr j)⟩
abbrev slF(s:SliceV):List Value:= [.slice s.a s.len s.cap]
def ParS(h:ae):List SliceV→List (List Pr)→Prop
 | [],[]=>True
 |v::vs,l::ls=>Sl fw 2 No h v l∧ParS h vs ls
 |_,_=>False
theorem ParS.upd{h b:ae}(k:Upd No h b):∀{vs:List SliceV} {ls:List (List Pr)},ParS h vs ls→ParS b vs ls
 | [],[],_=>trivial
 |_::_,_::_,q=>⟨q.1.upd k fun _ h=>h.elim,ParS.upd k q.2⟩
 | [],_::_,q=>q.elim
 |_::_,[],q=>q.elim
theorem ParS.len{h:ae}:∀{vs:List SliceV} {ls:List (List Pr)},ParS h vs ls→vs.length=ls.length
 | [],[],_=>rfl
 |_::_,_::_,q=>by rw[av,av,ParS.len q.2]
 | [],_::_,q=>q.elim
 |_::_,[],q=>q.elim
theorem ParS.at{h:ae}:∀{vs:List SliceV} {ls:List (List Pr)},ParS h vs ls→∀{i:Nat} (h1:i<vs.length) (h2:i<ls.length),Sl fw 2 No h vs[i] ls[i]
 |_::_,_::_,q,0,_,_=>q.1
 |_::_,_::_,q,i+1,h1,h2=>ParS.at q.2 (by simpa using h1) (by simpa using h2)
theorem Kq(ls:List (List Pr)){i:Nat}(hi:i<ls.length):(ls.take (i+1)).flatten=(ls.take i).flatten++ls[i]:=by
 rw[List.take_succ_eq_append_getElem hi,nO,mr,List.flatten_nil,List.append_nil]
theorem Q5(ls:List (List Pr))(i:Nat):(ls.take i).flatten.length≤ls.flatten.length:=by
 have:ls.flatten=(ls.take i).flatten++(ls.drop i).flatten:=by rw[←nO,List.take_append_drop]
 rw[this,af];omega
theorem SZ{h:ae}{s:SliceV}{vs:List SliceV}{ls:List (List Pr)}(z:Sl slF 1 No h s vs)(E:ParS h vs ls)(Q:ls.flatten.length*32≤140737488355328)(hv:vs.length≤1000)
  {K:SliceV→ae→Prop}(N:∀s' f,OwnS fw 2 201 (fun b=>h.size≤b) f s' ls.flatten→Upd No h f→K s' f):fU 276 [.slice s.a s.len s.cap] K h:=by
 refine eM (iC s) ns Tryz.func276 Tryz.call276 ?_;dsimp only[iC,cg,ja,ic,ji];have G:=z.len;have e:=E.len;refine LoopP.ghost (fun(i:Nat) (t:Int×Int) f=>t.2=(i:Int)∧i≤vs.length∧t.1=((ls.take i).flatten.length:Int)∧f=h) (fun i=>vs.length-i) 0 ⟨rfl,aY _,by simp,rfl⟩ ?_
 rintro I i ⟨V,ti⟩ f ⟨n,hi,H,rfl⟩ P;(try simp only at n H)
 subst n H;refine ak (fun c=>?_) fun w=>?_
 ·have c:i<vs.length:=by have:(i:Int)<(s.len:Int):=c;omega
  obtain⟨a,y,_,g⟩:=z.at (ag c);have J:=(E.at c (e▸c)).len;have d:=congrArg eO (Kq ls (e▸c));rw[af]at d;have F:=Q5 ls (i+1);refine Join.plain ⟨by(try simp only);omega,a,y,_,g 0 _ rfl,?_⟩;(try simp only)
  have O:ac .i64 (((ls.take i).flatten.length:Int)+((vs[i]).len:Int))=((ls.take (i+1)).flatten.length:Int):=by rw[dL (by omega)];omega
  rw[O];refine ak (fun h=>by omega) fun _=>?_
  rw[cX c (by omega)];exact P (i+1) _ _ ⟨rfl,c,rfl,rfl⟩ (by omega)
 ·have L:i=vs.length:=by have:¬(i:Int)<(s.len:Int):=w;omega
  rw[bL (by omega)];refine Xf Q fun T Z C v=>?_
  refine LoopP.ghost (fun(i:Nat) (t:SliceV×Int) D=>t.2=(i:Int)∧i≤vs.length∧OwnS fw 2 201 (fun b=>f.size≤b) D t.1 (ls.take i).flatten∧Upd No f D) (fun i=>vs.length-i) 0 ⟨rfl,aY _,by simpa using C,v⟩ ?_
  rintro Y j ⟨sj,U⟩ D ⟨n,W,u,m⟩ A;(try simp only at n u)
  subst n;refine ak (fun c=>?_) fun q=>?_
  ·have c:j<vs.length:=by have:(j:Int)<(s.len:Int):=c;omega
   obtain⟨a,y,_,g⟩:=(z.upd m fun _ h=>h.elim).at (ag c)
   have o:=((E.upd m).at c (e▸c));have d:=Kq ls (e▸c);have p:=congrArg eO d;rw[af]at p;have F:=Q5 ls (j+1);refine Join.plain ⟨by(try simp only);omega,a,y,_,g 0 _ rfl,_,o.srow,?_⟩;refine AppP.own (ys:=ls[j]) u o.len rfl (zT _) rfl (by omega) (by omega) m.size fun X h2 B x=>?_
   (try simp only)
   rw[cX c (by omega)];exact A (j+1) _ _ ⟨rfl,c,d▸B,m.trans x fun b R=>.inr R⟩ (by omega)
  ·have S:j=vs.length:=by have:¬(j:Int)<(s.len:Int):=q;omega
   rw[bL (by omega)]at u;exact N _ _ u m
def LB(l:List Pr)(p:Pr):List Pr:=l.take (pos l p.1)++p::l.drop (if nQ l p.1 then pos l p.1+1 else pos l p.1)
theorem Um{l:List Pr}(i:fE l){k:ByteArray}(d:nQ l k=true):∃h:pos l k<l.length,l[pos l k].1=k:=by
 unfold nQ at d;obtain⟨p,g,e⟩:=dZ.1 d;have e:=of_decide_eq_true e;obtain⟨q,c,rfl⟩:=dP.1 g;have:pos l k=q:=Ul (by omega) (fun j f b=>by rw[←e];exact df.1 i j q f c b) fun h=>by rw[←e];exact dS _
 subst this;exact⟨c,e⟩
theorem TT{h:ae}{s:SliceV}{l:List Pr}(b:Sl fw 2 No h s l){i j m:Nat}(e:i≤j)(h2:j≤l.length)(d:j≤m)(c:Nat):Sl fw 2 No h ⟨bN s.a i m 2,j-i,c⟩ ((l.drop i).take (j-i)):=Sl.sub b e h2 d
theorem PC{h:ae}{s:SliceV}{l:List Pr}(A:Sl fw 2 No h s l)(hc:s.len≤s.cap)(z:fE l)(P:l.length≤1000000000)(p:Pr)
  {K:SliceV→ae→Prop}(I:∀s' c,OwnS fw 2 201 (fun b=>h.size≤b) c s' (LB l p)→Upd No h c→K s' c):fU 257 [.slice s.a s.len s.cap,.agg #[.string p.1,.string p.2]] K h:=by
 refine eM (Ib s p) Qq Tryz.func257 Tryz.call257 ?_;dsimp only[Ib,cE,iR,Wj,xj,j5,pq,pQ,Of];have g:=A.len;have k1:=Upd.hnew No h [.string p.1,.string p.2] 201;have b1:=cO h [.string p.1,.string p.2] 201;refine cP ?_;simp only[dA h];generalize hnew h [.string p.1,.string p.2] 201=h1 at k1 b1;refine⟨p.1,by rw[cM,bO b1];rfl,Xk (A.upd k1 fun _ h=>h.elim) z P p.1 fun h2 n=>?_⟩
 have E:=Yw l p.1;have d:=k1.tr n;refine⟨by(try simp only);omega,?_⟩;let q:=if nQ l p.1 then pos l p.1+1 else pos l p.1
 have H:q≤l.length:=by
  show(if nQ l p.1 then pos l p.1+1 else pos l p.1)≤l.length
  split
  ·rename_i ht;obtain⟨h,_⟩:=Um z ht;omega
  ·exact E
 refine Join.intro (fun t c=>c=h2∧t=⟨bN s.a q s.cap 2,s.len-q,s.cap-q⟩) (fun R D=>?_) ?_
 ·refine CondP.intro (fun e=>?_) fun e=>D _ _ ⟨rfl,?_⟩
  ·have e:nQ l p.1=true:=e
   obtain⟨G,_⟩:=Um z e;have J:ac .i64 ((pos l p.1:Int)+1)=((pos l p.1+1:Nat):Int):=by rw[dL (by omega)];omega
   (try simp only)
   rw[J];refine⟨by omega,D _ _ ⟨rfl,?_⟩⟩;have:q=pos l p.1+1:=by show(if nQ l p.1 then _ else _)=_;rw[if_pos e]
   rw[this];rfl
  ·have e:nQ l p.1=false:=e
   have:q=pos l p.1:=by show(if nQ l p.1 then _ else _)=_;rw[if_neg (by rw[e];decide)]
   rw[this];rfl
 ·rintro t c ⟨rfl,rfl⟩
  have b2:=n.get0 b1;refine⟨by(try simp only);omega,p.1,by rw[cM,bO b2];rfl,p.2,by rw[cM,bO b2];rfl,?_⟩
  have w:=Upd.hnew No c [.string p.1,.string p.2] 201;have b3:=cO c [.string p.1,.string p.2] 201;refine cP ?_;simp only[dA c];generalize hnew c [.string p.1,.string p.2] 201=h3 at w b3;refine cP ?_;have f:=(A.upd d fun _ h=>h.elim).upd w fun _ h=>h.elim
  have u:=Upd.hnew No h3 [.slice (bN s.a 0 s.cap 2) ((pos l p.1:Int).toNat-0) (s.cap-0),.slice (some ⟨c.size,0,none⟩) 1 1,.slice (bN s.a q s.cap 2) (s.len-q) (s.cap-q)] 143;have N:=cO h3 [.slice (bN s.a 0 s.cap 2) ((pos l p.1:Int).toNat-0) (s.cap-0),.slice (some ⟨c.size,0,none⟩) 1 1,.slice (bN s.a q s.cap 2) (s.len-q) (s.cap-q)] 143;have F:=TT f (i:=0) (j:=pos l p.1) (m:=s.cap) (aY _) E (by omega) (s.cap-0)
  have O:Sl fw 2 No h3 ⟨some ⟨c.size,0,none⟩,1,1⟩ [p]:=⟨rfl,kj,fun _=>⟨_,rfl,fun h=>h.elim,zJ b3 fun i v hv=>by simpa using hv⟩⟩
  have B:=TT f (i:=q) (j:=l.length) (m:=s.cap) H (ai _) (by omega) (s.cap-q);rw[←g]at B;rw[dJ]at F;rw[bL (by rw[aW];omega)]at B;have L:LB l p= [l.take (pos l p.1-0),[p],l.drop q].flatten:=by simp[LB,q]
  refine SZ (s:=⟨some (aJ h3),3,3⟩) (vs:= [⟨bN s.a 0 s.cap 2,(pos l p.1:Int).toNat-0,s.cap-0⟩,⟨some ⟨c.size,0,none⟩,1,1⟩,⟨bN s.a q s.cap 2,s.len-q,s.cap-q⟩]) (ls:= [l.take (pos l p.1-0),[p],l.drop q])
   ⟨rfl,fun x=>⟨rfl,Nat.one_pos⟩,fun _=>⟨_,rfl,fun h=>h.elim,zJ N fun i v hv=>by simpa[slF]using hv⟩⟩ ⟨F.upd u fun _ h=>h.elim,O.upd u fun _ h=>h.elim,B.upd u fun _ h=>h.elim,trivial⟩ ?_ (by simp) fun S T o y=>?_
  ·simp only[mr,List.flatten_nil,af,aL,aW,List.length_singleton,List.length_nil];omega
  ·rw[←L]at o
   have C:=((d.tr w).tr u);exact I _ _ (o.more fun b Q=>Nat.le_trans C.size Q) (C.tr y)
end Go.Proofs
