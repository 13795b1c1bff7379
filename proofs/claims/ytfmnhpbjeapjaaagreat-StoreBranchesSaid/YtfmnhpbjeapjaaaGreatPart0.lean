/- A part of the proof that the named laws of this program answer true, whatever the input. -/
import Derived.Test.YtfmnhpbjeapjaaaGreatTreeF0
import Derived.Test.YtfmnhpbjeapjaaaGreatTreeF1
import Derived.Test.YtfmnhpbjeapjaaaGreatTreeF2
import Derived.Test.YtfmnhpbjeapjaaaGreatLaw0
import Derived.Test.YtfmnhpbjeapjaaaGreatLift3
import Derived.Lib.Overlaps
import Derived.Sort.Walk0
open BitVec renaming ofInt→aj
open ByteArray renaming size_extract→mu
open Int renaming fdiv→eR,toNat_natCast→aL
open List renaming flatMap_cons→bi,take_length→cQ,length_take→aK,length_drop→aM,flatMap_append→bV,drop_zero→dA,append_assoc→ax,take_append_of_le_length→ey,take_of_length_le→bC,length_append→ad,drop_left→gI,take_left→gG,size_toArray→cT,drop_eq_getElem_cons→kz,length_eq_zero_iff→aD,drop_left'→cp,take_left'→de,drop_drop→cV,drop_append_of_le_length→fW,length_cons→az,pairwise_iff_getElem→dd,getElem?_eq_getElem→ag,any_eq_true→bZ,replicate→eE,replicate_succ→kJ,flatten_append→kK,flatten_cons→jA,length→fV
open Nat renaming zero_le→cj,zero_add→aC,sub_self→fO,le_refl→aq,lt_or_ge→cd,min_eq_left→bK,sub_zero→eH,min→dt,add_one_mul→fk,one_mul→nV,le_mul_of_pos_left→mn,min_eq_right→mY
namespace Go.Proofs
open Go.Lift
theorem Gt(n:Int):0≤IntKind.wrap .u64 n∧IntKind.wrap .u64 n<18446744073709551616:=by rw[IntKind.wrap_u64];omega
theorem gi{x:Int}(h: -4611686018427387904≤x∧x≤4611686018427387904):IntKind.wrap .i64 x=x:=Go.IntWalk.i64_in _ (by omega)
theorem ec{i n:Nat}(h:i<n)(a:n≤4611686018427387904):IntKind.wrap .i64 ((i:Int)+1)=((i+1:Nat):Int):=by rw[gi (by omega)];omega
theorem vD{h:ac}{b i:Nat}{c:Array Value}{t:TypeId}{v:Value}{k:ac→Prop}(a:h[b]? =some (.cells c t (0,0)))
  (d:∀h',h'[b]? =some (.cells (c.setIfInBounds i v) t (0,0))→Upd (· =b) h h'→k h'):At (hset h ⟨b,i,none⟩ v) k:=by
 refine d _ ?_ (Upd.hset _ _ rfl);rw[wG a,gL a]
def LP(a b:Int):Int:=IntKind.wrap .u64 (aj (IntKind.bits .u64) a&&&aj (IntKind.bits .u64) b).toNat
def fg(a b:Int):Int:=IntKind.wrap .u64 (aj (IntKind.bits .u64) a^^^aj (IntKind.bits .u64) b).toNat
def KZ(a b:Int):Int:=IntKind.wrap .u64 (aj (IntKind.bits .u64) a|||aj (IntKind.bits .u64) b).toNat
def GL(x n:Int):Int:=
 KZ (IntKind.wrap .u64 (x*2^(min (LP (IntKind.wrap .u64 n) 63).toNat (IntKind.bits .u64)))) (eR x (2^(min (IntKind.wrap .u64 (64-LP (IntKind.wrap .u64 n) 63)).toNat (IntKind.bits .u64))))
theorem xO{x n:Int}{h:ac}{K:Int→ac→Prop}(a:K (GL x n) h):HC PG cN [.int .u64 x,.int .i64 n] [.c (.int .u64)] K h:=by
 refine qX x n ?_;unfold kW;exact⟨(Gt _).1,(Gt _).1,a⟩
abbrev Q4:=Int×Int×Int×Int
def q4(s:Q4):Array Value:= #[.int .u64 s.1,.int .u64 s.2.1,.int .u64 s.2.2.1,.int .u64 s.2.2.2]
def M6(a b:Int):Int:=IntKind.wrap .u64 (a+b)
def L1(s:Q4):Q4:=(M6 s.1 s.2.1,s.2)
def Mj(s:Q4):Q4:=(s.1,fg (GL s.2.1 13) s.1,s.2.2)
def Nl(s:Q4):Q4:=(GL s.1 32,s.2)
def NL(s:Q4):Q4:=(s.1,s.2.1,M6 s.2.2.1 s.2.2.2,s.2.2.2)
def Oq(s:Q4):Q4:=(s.1,s.2.1,s.2.2.1,fg (GL s.2.2.2 16) s.2.2.1)
def OM(s:Q4):Q4:=(M6 s.1 s.2.2.2,s.2)
def Pp(s:Q4):Q4:=(s.1,s.2.1,s.2.2.1,fg (GL s.2.2.2 21) s.1)
def PC(s:Q4):Q4:=(s.1,s.2.1,M6 s.2.2.1 s.2.1,s.2.2.2)
def s09(s:Q4):Q4:=(s.1,fg (GL s.2.1 17) s.2.2.1,s.2.2)
def s10(s:Q4):Q4:=(s.1,s.2.1,GL s.2.2.1 32,s.2.2.2)
def GK(s:Q4):Q4:=s10 (s09 (PC (Pp (OM (Oq (NL (Nl (Mj (L1 s)))))))))
def lR:Nat→Q4→Q4
 |0,s=>s
 |n+1,s=>lR n (GK s)
theorem mJ{h:ac}{b i:Nat}{t:TypeId}{s s':Q4}{v:Value}{k:ac→Prop}(f:h[b]? =some (.cells (q4 s) t (0,0))) (e:(q4 s).setIfInBounds i v=q4 s')
  (d:∀h',h'[b]? =some (.cells (q4 s') t (0,0))→Upd (· =b) h h'→k h'):At (hset h ⟨b,i,none⟩ v) k:=
 vD f fun h' a c=>d h' (e▸a) c
theorem CI{n:Nat}(X:n≤100){h:ac}{b:Nat}{t:TypeId}{s:Q4}(y:h[b]? =some (.cells (q4 s) t (0,0))) {K:Unit→ac→Prop}
  (Q:∀h',h'[b]? =some (.cells (q4 (lR n s)) t (0,0))→Upd (· =b) h h'→K () h'):HC PG gv [.pointer (some ⟨b,0,none⟩),.int .i64 n] [] K h:=by
 refine vN _ _ ?_;unfold pR bB dw dJ su;refine LoopP.ghost (fun(g:Nat×Q4) (O:Int) h'=>O=(g.1:Int)∧g.1≤n∧h'[b]? =some (.cells (q4 g.2) t (0,0))∧Upd (· =b) h h'∧lR (n-g.1) g.2=lR n s) (fun g=>n-g.1) (0,s) ⟨rfl,cj _,y,Upd.refl _ _,rfl⟩ ?_
 rintro I ⟨i,d⟩ O h' ⟨N,hi,a,P,x⟩ S;simp only at N hi a x;subst N;refine aE (fun u=>?_) fun U=>?_
 ·have u:i<n:=by omega
  have c:∀{h:ac} {s:Q4} {i:Nat},h[b]? =some (.cells (q4 s) t (0,0))→aF h ⟨b,0+i,none⟩=(q4 s)[i]?:=fun y=>by rw[aC];exact aP y
  have w:∀{h:ac} {s:Q4} {i:Nat},h[b]? =some (.cells (q4 s) t (0,0))→i<4→Wr h ⟨b,0+i,none⟩:=fun y hi=>by rw[aC];exact gR y hi
  simp only[show((0:Int)).toNat*1=0 from rfl,show((1:Int)).toNat*1=1 from rfl,show((2:Int)).toNat*1=2 from rfl,show((3:Int)).toNat*1=3 from rfl]
  refine⟨_,rfl,by decide,_,c (i:=0) a,_,rfl,by decide,_,c (i:=1) a,_,rfl,by decide,w (i:=0) a (by decide),mJ (s':=L1 d) a rfl fun h2 k E=>?_⟩
  refine⟨_,rfl,by decide,_,c (i:=1) k,_,rfl,by decide,_,c (i:=0) k,_,rfl,xO ⟨c (i:=0) k,by decide,w (i:=1) k (by decide),mJ (s':=Mj (L1 d)) k rfl fun W v L=>?_⟩⟩
  refine⟨_,rfl,by decide,_,c (i:=0) v,_,rfl,xO ⟨by decide,w (i:=0) v (by decide),mJ (s':=Nl (Mj (L1 d))) v rfl fun Z o F=>?_⟩⟩
  refine⟨_,rfl,by decide,_,c (i:=2) o,_,rfl,by decide,_,c (i:=3) o,_,rfl,by decide,w (i:=2) o (by decide),mJ (s':=NL (Nl (Mj (L1 d)))) o rfl fun h5 m J=>?_⟩
  refine⟨_,rfl,by decide,_,c (i:=3) m,_,rfl,by decide,_,c (i:=2) m,_,rfl,xO ⟨c (i:=2) m,by decide,w (i:=3) m (by decide),mJ (s':=Oq (NL (Nl (Mj (L1 d))))) m rfl fun V q C=>?_⟩⟩
  refine⟨_,rfl,by decide,_,c (i:=0) q,_,rfl,by decide,_,c (i:=3) q,_,rfl,by decide,w (i:=0) q (by decide),mJ (s':=OM (Oq (NL (Nl (Mj (L1 d)))))) q rfl fun Y f D=>?_⟩
  refine⟨_,rfl,by decide,_,c (i:=3) f,_,rfl,by decide,_,c (i:=0) f,_,rfl,xO ⟨c (i:=0) f,by decide,w (i:=3) f (by decide),mJ (s':=Pp (OM (Oq (NL (Nl (Mj (L1 d))))))) f rfl fun h8 p G=>?_⟩⟩
  refine⟨_,rfl,by decide,_,c (i:=2) p,_,rfl,by decide,_,c (i:=1) p,_,rfl,by decide,w (i:=2) p (by decide),mJ (s':=PC (Pp (OM (Oq (NL (Nl (Mj (L1 d)))))))) p rfl fun h9 j H=>?_⟩
  refine⟨_,rfl,by decide,_,c (i:=1) j,_,rfl,by decide,_,c (i:=2) j,_,rfl,xO ⟨c (i:=2) j,by decide,w (i:=1) j (by decide),mJ (s':=s09 (PC (Pp (OM (Oq (NL (Nl (Mj (L1 d))))))))) j rfl fun T e A=>?_⟩⟩
  refine⟨_,rfl,by decide,_,c (i:=2) e,_,rfl,xO ⟨by decide,w (i:=2) e (by decide),mJ (s':=GK d) e rfl fun R z B=>?_⟩⟩
  rw[ec u (by omega)];refine S (i+1,GK d) _ _ ⟨rfl,u,z,P.tr (E.tr (L.tr (F.tr (J.tr (C.tr (D.tr (G.tr (H.tr (A.tr B))))))))),?_⟩ (by simp only;omega);simp only;rw[←x,show n-i=(n-(i+1))+1 by omega];rfl
 ·obtain rfl:i=n:=by omega
  rw[fO]at x;have x:d=lR i s:=x;rw[←x]at Q;exact Q _ a P
end Go.Proofs
namespace Go.Proofs
open Go.Lift
def MZ(s:ByteArray)(i:Nat):Int:=match s[i]? with|some b=>(b.toNat:Int)|none=>0
def Po(b:Int)(n:Int):Int:=IntKind.wrap .u64 ((IntKind.wrap .u64 b)*2^(min n.toNat (IntKind.bits .u64)))
def wj(s:ByteArray):Nat→Int→Int
 |0,t=>t
 |k+1,t=>wj s k (KZ t (if k=0 then IntKind.wrap .u64 (MZ s 0)else Po (MZ s k) ((8*k:Nat):Int)))
def yM(s:ByteArray):Int:=wj s s.size 0
theorem qo{s:ByteArray}{i:Nat}(h:i<s.size):∃b,s[i]? =some b∧MZ s i=(b.toNat:Int):=⟨s[i],getElem?_pos s i h,by simp[MZ,getElem?_pos s i h]⟩
theorem H4{s:ByteArray}(C:s.size≤8){h:ac}{K:Int→ac→Prop}(g:K (yM s) h):HC PG rR [.string s] [.c (.int .u64)] K h:=by
 refine HM s ?_;unfold BG;refine Join.intro (fun t h'=>h'=h∧1≤s.size∧wj s 1 t=wj s s.size 0) (fun O p=>?_) ?_
 ·refine Join.intro (fun t h'=>h'=h∧2≤s.size∧wj s 2 t=wj s s.size 0) (fun R2 n=>?_) ?_
  ·refine Join.intro (fun t h'=>h'=h∧3≤s.size∧wj s 3 t=wj s s.size 0) (fun F j=>?_) ?_
   ·refine Join.intro (fun t h'=>h'=h∧4≤s.size∧wj s 4 t=wj s s.size 0) (fun G o=>?_) ?_
    ·refine Join.intro (fun t h'=>h'=h∧5≤s.size∧wj s 5 t=wj s s.size 0) (fun N k=>?_) ?_
     ·refine Join.intro (fun t h'=>h'=h∧6≤s.size∧wj s 6 t=wj s s.size 0) (fun R q=>?_) ?_
      ·refine Join.intro (fun t h'=>h'=h∧7≤s.size∧wj s 7 t=wj s s.size 0) (fun J m=>?_) ?_
       ·refine CondP.intro (fun e=>?_) fun x=>?_
        ·have e:s.size=8:=by have:=of_decide_eq_true (by simpa using e:decide ((s.size:Int)=8)=true);omega
         obtain⟨b,a,c⟩:=qo (s:=s) (i:=7) (by omega);refine⟨b,by decide,a,by decide,m _ _ ⟨rfl,by omega,?_⟩⟩
         rw[e,←c];rfl
        refine CondP.intro (fun e=>?_) fun B=>?_
        ·have e:s.size=7:=by have:=of_decide_eq_true (by simpa using e:decide ((s.size:Int)=7)=true);omega
         exact m _ _ ⟨rfl,by omega,by rw[e]⟩
        refine CondP.intro (fun e=>?_) fun z=>?_
        ·have e:s.size=6:=by have:=of_decide_eq_true (by simpa using e:decide ((s.size:Int)=6)=true);omega
         exact q _ _ ⟨rfl,by omega,by rw[e]⟩
        refine CondP.intro (fun e=>?_) fun A=>?_
        ·have e:s.size=5:=by have:=of_decide_eq_true (by simpa using e:decide ((s.size:Int)=5)=true);omega
         exact k _ _ ⟨rfl,by omega,by rw[e]⟩
        refine CondP.intro (fun e=>?_) fun u=>?_
        ·have e:s.size=4:=by have:=of_decide_eq_true (by simpa using e:decide ((s.size:Int)=4)=true);omega
         exact o _ _ ⟨rfl,by omega,by rw[e]⟩
        refine CondP.intro (fun e=>?_) fun v=>?_
        ·have e:s.size=3:=by have:=of_decide_eq_true (by simpa using e:decide ((s.size:Int)=3)=true);omega
         exact j _ _ ⟨rfl,by omega,by rw[e]⟩
        refine CondP.intro (fun e=>?_) fun w=>?_
        ·have e:s.size=2:=by have:=of_decide_eq_true (by simpa using e:decide ((s.size:Int)=2)=true);omega
         exact n _ _ ⟨rfl,by omega,by rw[e]⟩
        refine CondP.intro (fun e=>?_) fun y=>?_
        ·have e:s.size=1:=by have:=of_decide_eq_true (by simpa using e:decide ((s.size:Int)=1)=true);omega
         exact p _ _ ⟨rfl,by omega,by rw[e]⟩
        have e:s.size=0:=by
         have E:¬(s.size:Int)=1:=by simpa using y
         have L:¬(s.size:Int)=2:=by simpa using w
         have H:¬(s.size:Int)=3:=by simpa using v
         have q4:¬(s.size:Int)=4:=by simpa using u
         have P:¬(s.size:Int)=5:=by simpa using A
         have I:¬(s.size:Int)=6:=by simpa using z
         have D:¬(s.size:Int)=7:=by simpa using B
         have Q:¬(s.size:Int)=8:=by simpa using x
         omega
        unfold yM at g;rw[e]at g;exact g
       ·rintro t _ ⟨rfl,f,d⟩
        obtain⟨b,a,c⟩:=qo (s:=s) (i:=6) (by omega);refine⟨b,by decide,a,by decide,q _ _ ⟨rfl,by omega,?_⟩⟩
        rw[←d,←c];rfl
      ·rintro t _ ⟨rfl,f,d⟩
       obtain⟨b,a,c⟩:=qo (s:=s) (i:=5) (by omega);refine⟨b,by decide,a,by decide,k _ _ ⟨rfl,by omega,?_⟩⟩
       rw[←d,←c];rfl
     ·rintro t _ ⟨rfl,f,d⟩
      obtain⟨b,a,c⟩:=qo (s:=s) (i:=4) (by omega);refine⟨b,by decide,a,by decide,o _ _ ⟨rfl,by omega,?_⟩⟩
      rw[←d,←c];rfl
    ·rintro t _ ⟨rfl,f,d⟩
     obtain⟨b,a,c⟩:=qo (s:=s) (i:=3) (by omega);refine⟨b,by decide,a,by decide,j _ _ ⟨rfl,by omega,?_⟩⟩
     rw[←d,←c];rfl
   ·rintro t _ ⟨rfl,f,d⟩
    obtain⟨b,a,c⟩:=qo (s:=s) (i:=2) (by omega);refine⟨b,by decide,a,by decide,n _ _ ⟨rfl,by omega,?_⟩⟩
    rw[←d,←c];rfl
  ·rintro t _ ⟨rfl,f,d⟩
   obtain⟨b,a,c⟩:=qo (s:=s) (i:=1) (by omega);refine⟨b,by decide,a,by decide,p _ _ ⟨rfl,by omega,?_⟩⟩
   rw[←d,←c];rfl
 ·rintro t _ ⟨rfl,f,d⟩
  obtain⟨b,a,c⟩:=qo (s:=s) (i:=0) (by omega);refine⟨b,by decide,a,?_⟩
  unfold yM at g;rw[←d]at g;rw[←c];exact g
end Go.Proofs
namespace Go.Proofs
open Go.Lift
def Ao(m:Int)(s:Q4):Q4:=
 let r:=lR 2 (s.1,s.2.1,s.2.2.1,fg s.2.2.2 m)
 (fg r.1 m,r.2)
theorem Ib{m:Int}{h:ac}{b:Nat}{t:TypeId}{s:Q4}(d:h[b]? =some (.cells (q4 s) t (0,0))) {K:Unit→ac→Prop}
  (f:∀h',h'[b]? =some (.cells (q4 (Ao m s)) t (0,0))→Upd (· =b) h h'→K () h'):HC PG j6 [.pointer (some ⟨b,0,none⟩),.int .u64 m] [] K h:=by
 refine yB _ _ ?_;unfold rx bB dw dJ qb;have c:∀{h:ac} {s:Q4} {i:Nat},h[b]? =some (.cells (q4 s) t (0,0))→aF h ⟨b,0+i,none⟩=(q4 s)[i]?:=fun d=>by rw[aC];exact aP d
 have w:∀{h:ac} {s:Q4} {i:Nat},h[b]? =some (.cells (q4 s) t (0,0))→i<4→Wr h ⟨b,0+i,none⟩:=fun d hi=>by rw[aC];exact gR d hi
 simp only[show((0:Int)).toNat*1=0 from rfl,show((3:Int)).toNat*1=3 from rfl]
 refine⟨_,rfl,by decide,_,c (i:=3) d,_,rfl,by decide,w (i:=3) d (by decide),mJ (s':=(s.1,s.2.1,s.2.2.1,fg s.2.2.2 m)) d rfl fun v k o=>?_⟩
 refine CI (n:=2) (by omega) k fun u a g=>?_
 have p:Ao m s=(fg (lR 2 (s.1,s.2.1,s.2.2.1,fg s.2.2.2 m)).1 m,(lR 2 (s.1,s.2.1,s.2.2.1,fg s.2.2.2 m)).2):=by unfold Ao;rfl
 rw[p]at f;generalize lR 2 (s.1,s.2.1,s.2.2.1,fg s.2.2.2 m)=r at a f;refine⟨_,rfl,by decide,_,c (i:=0) a,_,rfl,by decide,w (i:=0) a (by decide),mJ (s':=(fg r.1 m,r.2)) a rfl fun q e j=>?_⟩
 exact f _ e (o.tr (g.tr j))
def As:Nat→ByteArray→Q4→ByteArray×Q4
 |0,s,q=>(s,q)
 |n+1,s,q=>if 8≤s.size then As n (s.extract 8 s.size) (Ao (yM (s.extract 0 8)) q)else(s,q)
def Pc(r:Q4):Int:=fg (fg (fg r.1 r.2.1) r.2.2.1) r.2.2.2
def Pb(q:Q4):Int:=Pc (lR 4 (q.1,q.2.1,fg q.2.2.1 255,q.2.2.2))
def PB(n:Nat)(g:ByteArray×Q4):Int:=Pb (Ao (KZ (yM g.1) (Po (n:Int) 56)) g.2)
def Mg(k0 k1:Int)(s:ByteArray):Int:=
 PB s.size (As s.size s (fg k0 8317987319222330741,fg k1 7237128888997146477,fg k0 7816392313619706465,fg k1 8387220255154660723))
theorem MO{a:ac}{b:Nat}{t:TypeId}{r:Q4}(f:a[b]? =some (.cells (q4 r) t (0,0))) {K:Int→Prop} (g:K (Pc r)):
  (((0:Int)≤(0:Int)∧(0:Int)<((4:Nat):Int))∧
   ∃v30:Int,aF a (adr ⟨b,0,none⟩ ((0:Int).toNat*1))=some (.int .u64 v30)∧
   (((0:Int)≤(1:Int)∧(1:Int)<((4:Nat):Int))∧
    ∃v31:Int,aF a (adr ⟨b,0,none⟩ ((1:Int).toNat*1))=some (.int .u64 v31)∧
    Bd (IntKind.wrap .u64 (aj (IntKind.bits .u64) v30^^^aj (IntKind.bits .u64) v31).toNat:Int) (fun n32=>
     (((0:Int)≤(2:Int)∧(2:Int)<((4:Nat):Int))∧
      ∃v33:Int,aF a (adr ⟨b,0,none⟩ ((2:Int).toNat*1))=some (.int .u64 v33)∧
      Bd (IntKind.wrap .u64 (aj (IntKind.bits .u64) n32^^^aj (IntKind.bits .u64) v33).toNat:Int) (fun e=>
       (((0:Int)≤(3:Int)∧(3:Int)<((4:Nat):Int))∧
        ∃v35:Int,aF a (adr ⟨b,0,none⟩ ((3:Int).toNat*1))=some (.int .u64 v35)∧
        Bd (IntKind.wrap .u64 (aj (IntKind.bits .u64) e^^^aj (IntKind.bits .u64) v35).toNat:Int) (fun d=>
         K d))))))):=by
 have c:∀{i:Nat},aF a ⟨b,0+i,none⟩=(q4 r)[i]?:=by intro i;rw[aC];exact aP f
 exact⟨by decide,_,c (i:=0),by decide,_,c (i:=1),by decide,_,c (i:=2),by decide,_,c (i:=3),g⟩
theorem MN{a:ac}{b:Nat}{t:TypeId}{q:Q4}(f:a[b]? =some (.cells (q4 q) t (0,0))) {K:Unit→ac→Prop}
  (p:∀h',h'[b]? =some (.cells (q4 (lR 4 (q.1,q.2.1,fg q.2.2.1 255,q.2.2.2))) t (0,0))→Upd (· =b) a h'→K () h'):
  (((0:Int)≤(2:Int)∧(2:Int)<((4:Nat):Int))∧
   ∃v25:Int,aF a (adr ⟨b,0,none⟩ ((2:Int).toNat*1))=some (.int .u64 v25)∧
   Bd (IntKind.wrap .u64 (aj (IntKind.bits .u64) v25^^^aj (IntKind.bits .u64) 255).toNat:Int) (fun e=>
    (((0:Int)≤(2:Int)∧(2:Int)<((4:Nat):Int))∧
     (Wr a (adr ⟨b,0,none⟩ ((2:Int).toNat*1))∧
      At (hset a (adr ⟨b,0,none⟩ ((2:Int).toNat*1)) (.int .u64 e)) (fun g=>
       HC PG gv [.pointer (some ⟨b,0,none⟩),.int .i64 4] [] K g))))):=by
 have c:∀{i:Nat},aF a ⟨b,0+i,none⟩=(q4 q)[i]?:=by intro i;rw[aC];exact aP f
 refine⟨by decide,_,c (i:=2),by decide,by rw[show((2:Int)).toNat*1=2 from rfl,bO];exact gR f (by simp[q4]),?_⟩
 refine mJ (s':=(q.1,q.2.1,fg q.2.2.1 255,q.2.2.2)) f rfl fun s j m=>?_
 exact CI (n:=4) (by omega) j fun o d k=>p o d (m.tr k)
theorem aX{h:ac}{k:ac→Prop}(a:k h):At h k:=a
theorem NH{k0 k1:Int}{s:ByteArray}{h:ac}{K:Int→ac→Prop}(B:∀h',Upd No h h'→K (Mg k0 k1 s) h'):HC PG yg [.agg #[.int .u64 k0,.int .u64 k1],.string s] [.c (.int .u64)] K h:=by
 refine JO (k0,k1) s ?_;unfold Dm bB dw ae dJ nv qb OQ Oy OB L6;have u:=Upd.hnew No h [.int .u64 k0,.int .u64 k1] jh;have b1:=bN h [.int .u64 k0,.int .u64 k1] jh;have F:=gX h [.int .u64 k0,.int .u64 k1] jh;refine aX ?_;simp only[cr h];generalize hnew h [.int .u64 k0,.int .u64 k1] jh=h1 at u b1 F;refine⟨k0,by rw[bO,aP b1];rfl,k1,by rw[bO,aP b1];rfl,k0,by rw[bO,aP b1];rfl,k1,by rw[bO,aP b1];rfl,?_⟩
 have N:=Upd.hnew No h1 [.int .u64 0,.int .u64 0,.int .u64 0,.int .u64 0] g4;have b2:=bN h1 [.int .u64 0,.int .u64 0,.int .u64 0,.int .u64 0] g4;simp only[cr h1];simp only[Bd];refine aX ?_;refine⟨.inr ⟨_,rfl,fun j H=>by rw[bO];exact gR b2 (by simp at H⊢;omega)⟩,?_⟩
 refine aX ?_;rw[gV _ _ 0 0 _ b2 (by simp)];have b3:=gL (o:=.cells (q4 (fg k0 8317987319222330741,fg k1 7237128888997146477,fg k0 7816392313619706465,fg k1 8387220255154660723)) g4 (0,0)) b2;have J:Upd No h _:=u.tr (N.trans (M':=(· =h1.size)) (Upd.set (hnew h1 [.int .u64 0,.int .u64 0,.int .u64 0,.int .u64 0] g4) (.cells (q4 (fg k0 8317987319222330741,fg k1 7237128888997146477,fg k0 7816392313619706465,fg k1 8387220255154660723)) g4 (0,0)) rfl) fun b a=>.inr (Nat.le_of_eq a.symm))
 refine LoopP.ghost (fun(g:Nat×Q4) (d:ByteArray) h'=>d.size≤g.1∧h'[h1.size]? =some (.cells (q4 g.2) g4 (0,0))∧Upd No h h'∧As g.1 d g.2=As s.size s (fg k0 8317987319222330741,fg k1 7237128888997146477,fg k0 7816392313619706465,fg k1 8387220255154660723)) (fun g=>g.1) (s.size,_)
  ⟨aq _,b3,J,rfl⟩ ?_
 rintro I ⟨n,q⟩ d h' ⟨D,a,A,p⟩ G;simp only at D a p;have k:∀b,b=h1.size→No b∨h.size≤b:=fun b a=>.inr (by omega)
 refine aE (fun t=>?_) fun y=>?_
 ·have t:8≤d.size:=by omega
  cases n with
  |zero=>omega
  |succ n=>
   refine⟨by omega,H4 (by rw[mu];show min 8 _-0≤8;omega) (Ib a fun L e f=>⟨by omega,?_⟩)⟩
   have E:((8:Int)).toNat=8:=rfl;rw[E]at e⊢;refine G (n,Ao (yM (d.extract 0 8)) q) _ _ ⟨by simp only[mu];omega,e,A.trans f k,?_⟩ (by simp only;omega);rw[←p];simp only[As,if_pos t]
 ·have y:d.size<8:=by omega
  have p:(d,q)=As s.size s (fg k0 8317987319222330741,fg k1 7237128888997146477,fg k0 7816392313619706465,fg k1 8387220255154660723):=by
   rw[←p];cases n with
   |zero=>rfl
   |succ n=>simp only[As,if_neg (show ¬8≤d.size by omega)]
  have c:∀{h:ac} {s:Q4} {i:Nat},h[h1.size]? =some (.cells (q4 s) g4 (0,0))→aF h ⟨h1.size,0+i,none⟩=(q4 s)[i]?:=fun a=>by rw[aC];exact aP a
  have w:∀{h:ac} {s:Q4} {i:Nat},h[h1.size]? =some (.cells (q4 s) g4 (0,0))→i<4→Wr h ⟨h1.size,0+i,none⟩:=fun a hi=>by rw[aC];exact gR a hi
  have x:Mg k0 k1 s=Pb (Ao (KZ (yM d) (Po (s.size:Int) 56)) q):=by unfold Mg;rw[←p];rfl
  rw[x]at B;refine H4 (by omega) ⟨by decide,Ib (m:=KZ (yM d) (Po (s.size:Int) 56)) a fun L e f=>?_⟩
  refine MN e fun C v z=>MO (K:=fun n=>K n C) v ?_
  exact B C ((A.trans f k).trans z k)
structure Hs where
 k0:Int
 k1:Int
 mask:Int
def ir(h:Hs)(s:ByteArray):Int:=LP (Mg h.k0 h.k1 s) h.mask
theorem zX{x:Hs}{s:ByteArray}{h:ac}{K:Int→ac→Prop}(c:∀h',Upd No h h'→K (ir x s) h'):HC PG fX [.agg #[.int .u64 x.k0,.int .u64 x.k1,.int .u64 x.mask],.string s] [.c (.int .u64)] K h:=by
 refine xa (x.k0,x.k1,x.mask) s ?_;unfold qw ae Gh gr OE;have a:=Upd.hnew No h [.int .u64 x.k0,.int .u64 x.k1,.int .u64 x.mask] cx;have b1:=bN h [.int .u64 x.k0,.int .u64 x.k1,.int .u64 x.mask] cx;simp only[At,cr h];generalize hnew h [.int .u64 x.k0,.int .u64 x.k1,.int .u64 x.mask] cx=h1 at a b1;refine⟨x.k0,by rw[bO,bO,aP b1];rfl,x.k1,by rw[bO,bO,aP b1];rfl,x.mask,by rw[bO,aP b1];rfl,?_⟩
 refine NH fun d b=>⟨by rw[bO,aP (b.get0 b1)];rfl,c _ (a.tr b)⟩
theorem FB(x:Hs)(s:ByteArray):0≤ir x s∧ir x s<18446744073709551616:=Gt _
end Go.Proofs
namespace Go.Proofs
open Go Go.Lift
abbrev eA(x:ByteArray×ByteArray):List Value:= [.string x.1,.string x.2]
theorem ia(x:ByteArray×ByteArray):(eA x).length=2∧0<2:=⟨rfl,by omega⟩
theorem tV:∀xs:List (ByteArray×ByteArray),bR (xs.flatMap eA)=true
 | []=>rfl
 |x::xs=>by rw[bi];exact j3 rfl (tV xs)
theorem DP{h:ac}{a b o d c e f:Nat}{j cw:Array Value}{k tb:TypeId}(g:h[a]? =some (.cells j k (0,0))) (m:h[b]? =some (.cells cw tb (0,0))) (p:a≠b) (q:cw.size≠0) {K:Bool→ac→Prop} (n:K false h):
  HC PG ge [.slice (some ⟨a,0,none⟩) d c,.slice (some ⟨b,o,none⟩) e f] [.c .bool] K h:=by
 refine⟨fun w i=>.inr ⟨.bool false,w,?_,Tame.refl w,false,rfl,i▸n⟩⟩
 subst i;rw[o9];have:=Lib.run_overlaps_apart (P:=PG) w cE rH af (by kernel_rfl) (bJ PG af) (nB (by kernel_rfl)) ⟨a,0,none⟩ ⟨b,o,none⟩ d c e f p k tb j.size cw.size
  (by simp[World.shape?,g]) (by simp[World.shape?,m]) q (by simp[World.frozen?,g]) (by simp[World.frozen?,g])
 rw[show([Value.slice (some ⟨a,0,none⟩) d c,Value.slice (some ⟨b,o,none⟩) e f]:List Value).toArray= #[.slice (some ⟨a,0,none⟩) d c,.slice (some ⟨b,o,none⟩) e f]from rfl,this]
 rfl
set_option maxRecDepth 4000 in
theorem Hi{M:Nat→Prop}{h:ac}{s:SliceV}{xs:List (ByteArray×ByteArray)}(T:OwnS eA 2 af M h s xs){k:Nat}(hkl:k≤xs.length)(hn:(xs.length+1)*32≤140737488355328){x:ByteArray×ByteArray}{m:Nat}(E:h[m]? =some (.cells (eA x).toArray af (0,0)))
  (hvM:¬M m) (hM:∀b,h.size≤b→M b) {K:SliceV→ac→Prop} (W:∀s' h',OwnS eA 2 af M h' s' (xs.take k++x::xs.drop k)→Upd M h h'→K s' h'):
  HC PG cB [.slice s.a s.len s.cap,.int .i64 k,.slice (some ⟨m,0,none⟩) 1 1] [.c .slice] K h:=by
 refine kg s k ⟨some ⟨m,0,none⟩,1,1⟩ ?_;unfold fY nW;have p:=T.len;have hcap:=T.cap;have H:SRow h (some ⟨m,0,none⟩) (1*2) (eA x):=⟨rfl,.inr ⟨_,rfl,qe E fun i v hi=>by simpa using hi⟩⟩
 refine⟨by omega,ak.2 ?_⟩;refine CondP.intro (fun e=>?_) fun e=>?_
 ·have e:k=xs.length:=by have:=of_decide_eq_true (by simpa using e:decide ((k:Int)=(s.len:Int))=true);omega
  subst e;refine⟨_,H,AppP.own (ys:= [x]) T rfl (by simp) rfl rfl (by omega) (by simp;omega) (hM _ (aq _)) fun s' h' ho hu=>W s' h' ?_ hu⟩
  rw[cQ,List.drop_length];exact ho
 have hlt:k<xs.length:=by
  rcases cd k xs.length with h|h
  ·exact h
  ·have:((k:Int)==(s.len:Int))=true:=by rw[beq_iff_eq];omega
   rw[this]at e;cases e
 rcases T.blk with h0|⟨b,j,ha,n,hc,hr⟩
 ·omega
 have g:((xs.take k).flatMap eA).length=k*2:=by rw[iT ia,aK,bK hkl]
 have t:((xs.drop k).flatMap eA).length=(xs.length-k)*2:=by rw[iT ia,aM]
 have J:m≠b:=fun e=>hvM (e▸n)
 rw[vz (f:=eA) xs k]at hc;have a:(xs.take k++x::xs.drop k).flatMap eA=(xs.take k).flatMap eA++(eA x++(xs.drop k).flatMap eA):=by rw[bV,bi]
 have d:=tV (xs.drop k);have c:(eA x).length=2:=rfl;have y:bR (eA x)=true:=rfl;generalize hAe:(xs.take k).flatMap eA=A at g hc a;generalize hBe:(xs.drop k).flatMap eA=B at t hc a d;generalize eA x=X at H c E a y;rw[ha];have w1:IntKind.wrap .i64 ((xs.length:Int)+((1:Nat):Int))=((xs.length+1:Nat):Int):=by rw[gi (by omega)];omega
 have w2:IntKind.wrap .i64 ((k:Int)+((1:Nat):Int))=((k+1:Nat):Int):=by rw[gi (by omega)];omega
 have w3:IntKind.wrap .i64 (((xs.length+1:Nat):Int)-(k:Int))=((xs.length+1-k:Nat):Int):=by rw[gi (by omega)];omega
 simp only[w1,w2,w3,aL,p];refine aE (fun hgt=>?_) fun hle=>?_
 ·
  have P:s.cap=xs.length:=by omega
  refine Join.plain ⟨by omega,⟨by omega,by omega,by omega,by omega⟩,fun hin=>?_,fun F=>?_⟩
  ·omega
  ·refine⟨A,_,?_,rfl,by omega,Go.growslice_fits F (by omega),fun D w=>?_⟩
   ·rw[sub_zero]
    exact jJ hc (by rw[g];omega) (by simp only[dA,eH];rw[ax,←g,ey (aq _),cQ])
   ·simp only[aL]at w⊢
    have U:=Upd.hnew No h (A++db (xs.length+1-k) [.string (⟨#[]⟩:ByteArray),.string (⟨#[]⟩:ByteArray)]++db (D-(k-0+(xs.length+1-k))) [.string (⟨#[]⟩:ByteArray),.string (⟨#[]⟩:ByteArray)]) af;have bn:=bN h (A++db (xs.length+1-k) [.string (⟨#[]⟩:ByteArray),.string (⟨#[]⟩:ByteArray)]++db (D-(k-0+(xs.length+1-k))) [.string (⟨#[]⟩:ByteArray),.string (⟨#[]⟩:ByteArray)]) af
    have z:(db (xs.length+1-k) [.string (⟨#[]⟩:ByteArray),.string (⟨#[]⟩:ByteArray)]).length=(xs.length+1-k)*2:=jD _ _;have hz2:(db (D-(k-0+(xs.length+1-k))) [.string (⟨#[]⟩:ByteArray),.string (⟨#[]⟩:ByteArray)]).length=(D-(k-0+(xs.length+1-k)))*2:=jD _ _;have o:k-0+(xs.length+1-k)=xs.length+1:=by omega
    rw[cr];have hsz:h.size≠m:=fun e=>by have:=aW E;omega
    have S:h.size≠b:=fun e=>by have:=aW hc;omega
    have Q:=U.get0 hc;have L:=U.get0 E;generalize hnew h _ af=h9 at U bn Q L;rw[o]at w hz2⊢;have m1:dt 1 (xs.length+1-k)=1:=bK (by omega);have m2:dt (xs.length-k) (xs.length+1-(k+1))=xs.length-k:=bK (by omega);rw[m1];have xr9:SRow h9 (some ⟨m,0,none⟩) (1*2) X:=jJ L (by rw[c]) (by rw[dA,bC];rw[c];omega)
    refine⟨by omega,?_⟩;rw[ip (by omega)];refine i4 xr9 y bn (by simp only[ad,g,z];omega) fun V N u=>⟨by omega,?_⟩
    simp only[Bd];rw[ip (by omega),ip (by omega),m2];refine⟨by omega,?_⟩;have C:=u.get Q (fun e=>S e.symm)
    have br:SRow V (some ⟨b,0+k*2,none⟩) ((xs.length-k)*2) B:=jJ C t (by
     rw[aC,ax,←g,gI,←t,gG])
    refine i4 br d N ?_ fun h16 I O=>?_
    ·simp only[ad,aK,aM,g,z,c];omega
    ·refine W _ _ ⟨by simp;omega,ia,w,.inr ⟨h.size,db (D-(xs.length+1)) [.string (⟨#[]⟩:ByteArray),.string (⟨#[]⟩:ByteArray)],rfl,hM _ (aq _),?_,by rw[jD];rfl⟩⟩ ((U.wide.trans (M':=(· =h.size)) u fun b n=>.inl (n▸hM _ (aq _))).trans (M':=(· =h.size)) O fun b n=>.inl (n▸hM _ (aq _)))
     rw[I,a];have:=DZ (A:=A) (X:=X) (B:=B) (Z1:=db (xs.length+1-k) [.string (⟨#[]⟩:ByteArray),.string (⟨#[]⟩:ByteArray)]) (Z2:=db (D-(xs.length+1)) [.string (⟨#[]⟩:ByteArray),.string (⟨#[]⟩:ByteArray)]) (r:=(xs.length-k)*2) g c (by rw[z,←fk];congr 1;omega);rw[o,←this];simp only[aC,fk,nV]
 ·have P:xs.length+1≤s.cap:=by omega
  refine⟨by omega,?_⟩;simp only[Bd,eH];rw[sub_zero,ip (show s.cap≠k+1 by omega),ip (show s.cap≠k by omega)]
  refine⟨by omega,?_⟩;have hrl:2≤j.length:=by rw[hr];exact mn _ (by omega)
  refine DP E hc J (by rw[cT,ad];omega) ?_;refine aB.2 ⟨by omega,by omega,?_⟩
  have m1:dt 1 (xs.length+1-k)=1:=bK (by omega);have m2:dt (xs.length+1-k) (xs.length+1-(k+1))=xs.length-k:=by
   rw[show xs.length+1-(k+1)=xs.length-k by omega];exact mY (by omega)
  rw[m2];have br:SRow h (some ⟨b,0+k*2,none⟩) ((xs.length-k)*2) B:=jJ hc t (by
   rw[aC,ax,←g,gI,←t,gG])
  refine i4 br d hc (by simp only[ad,g,t];omega) fun h1 hb1 G=>⟨by omega,?_⟩
  rw[m1];have Z:SRow h1 (some ⟨m,0,none⟩) (1*2) X:=jJ (G.get E J) (by rw[c]) (by rw[dA,bC];rw[c];omega);refine i4 Z y hb1 (by simp only[ad,aK,aM,g,t];omega) fun h2 hb2 Y=>?_
  refine W _ _ ⟨by simp;omega,ia,P,.inr ⟨b,j.drop 2,rfl,n,?_,?_⟩⟩ ((G.mono fun _ e=>.inl (e▸n)).tr (Y.mono fun _ e=>.inl (e▸n)))
  ·rw[hb2,a]
   have:=Hk (A:=A) (X:=X) (B:=B) (R:=j) (q:=2) (r:=(xs.length-k)*2) g t hrl;rw[←this];simp only[aC,fk,nV]
  ·rw[aM,hr]
   simp only;rw[p];omega
abbrev pn(x:Option Addr):List Value:= [.pointer x]
theorem oc(x:Option Addr):(pn x).length=1∧0<1:=⟨rfl,by omega⟩
theorem zQ:∀xs:List (Option Addr),bR (xs.flatMap pn)=true
 | []=>rfl
 |x::xs=>by rw[bi];exact j3 rfl (zQ xs)
theorem DQ{h:ac}{a b o d c e f:Nat}{j cw:Array Value}{k tb:TypeId}(g:h[a]? =some (.cells j k (0,0))) (m:h[b]? =some (.cells cw tb (0,0))) (p:a≠b) (q:cw.size≠0) {K:Bool→ac→Prop} (n:K false h):
  HC PG fQ [.slice (some ⟨a,0,none⟩) d c,.slice (some ⟨b,o,none⟩) e f] [.c .bool] K h:=by
 refine⟨fun w i=>.inr ⟨.bool false,w,?_,Tame.refl w,false,rfl,i▸n⟩⟩
 subst i;rw[nJ];have:=Lib.run_overlaps_apart (P:=PG) w nZ rH bl (by kernel_rfl) (bJ PG bl) (nB (by kernel_rfl)) ⟨a,0,none⟩ ⟨b,o,none⟩ d c e f p k tb j.size cw.size
  (by simp[World.shape?,g]) (by simp[World.shape?,m]) q (by simp[World.frozen?,g]) (by simp[World.frozen?,g])
 rw[show([Value.slice (some ⟨a,0,none⟩) d c,Value.slice (some ⟨b,o,none⟩) e f]:List Value).toArray= #[.slice (some ⟨a,0,none⟩) d c,.slice (some ⟨b,o,none⟩) e f]from rfl,this]
 rfl
set_option maxRecDepth 4000 in
theorem Hj{M:Nat→Prop}{h:ac}{s:SliceV}{xs:List (Option Addr)}(T:OwnS pn 1 bl M h s xs){k:Nat}(hkl:k≤xs.length)(hn:(xs.length+1)*8≤140737488355328){x:Option Addr}{m:Nat}(E:h[m]? =some (.cells (pn x).toArray bl (0,0)))
  (hvM:¬M m) (hM:∀b,h.size≤b→M b) {K:SliceV→ac→Prop} (W:∀s' h',OwnS pn 1 bl M h' s' (xs.take k++x::xs.drop k)→Upd M h h'→K s' h'):
  HC PG ci [.slice s.a s.len s.cap,.int .i64 k,.slice (some ⟨m,0,none⟩) 1 1] [.c .slice] K h:=by
 refine i6 s k ⟨some ⟨m,0,none⟩,1,1⟩ ?_;unfold fh;have p:=T.len;have hcap:=T.cap;have H:SRow h (some ⟨m,0,none⟩) (1*1) (pn x):=⟨rfl,.inr ⟨_,rfl,qe E fun i v hi=>by simpa using hi⟩⟩
 refine⟨by omega,ak.2 ?_⟩;refine CondP.intro (fun e=>?_) fun e=>?_
 ·have e:k=xs.length:=by have:=of_decide_eq_true (by simpa using e:decide ((k:Int)=(s.len:Int))=true);omega
  subst e;refine⟨_,H,AppP.own (ys:= [x]) T rfl (by simp) rfl rfl (by omega) (by simp;omega) (hM _ (aq _)) fun s' h' ho hu=>W s' h' ?_ hu⟩
  rw[cQ,List.drop_length];exact ho
 have hlt:k<xs.length:=by
  rcases cd k xs.length with h|h
  ·exact h
  ·have:((k:Int)==(s.len:Int))=true:=by rw[beq_iff_eq];omega
   rw[this]at e;cases e
 rcases T.blk with h0|⟨b,j,ha,n,hc,hr⟩
 ·omega
 have g:((xs.take k).flatMap pn).length=k*1:=by rw[iT oc,aK,bK hkl]
 have t:((xs.drop k).flatMap pn).length=(xs.length-k)*1:=by rw[iT oc,aM]
 have J:m≠b:=fun e=>hvM (e▸n)
 rw[vz (f:=pn) xs k]at hc;have a:(xs.take k++x::xs.drop k).flatMap pn=(xs.take k).flatMap pn++(pn x++(xs.drop k).flatMap pn):=by rw[bV,bi]
 have d:=zQ (xs.drop k);have c:(pn x).length=1:=rfl;have y:bR (pn x)=true:=rfl;generalize hAe:(xs.take k).flatMap pn=A at g hc a;generalize hBe:(xs.drop k).flatMap pn=B at t hc a d;generalize pn x=X at H c E a y;rw[ha];have w1:IntKind.wrap .i64 ((xs.length:Int)+((1:Nat):Int))=((xs.length+1:Nat):Int):=by rw[gi (by omega)];omega
 have w2:IntKind.wrap .i64 ((k:Int)+((1:Nat):Int))=((k+1:Nat):Int):=by rw[gi (by omega)];omega
 have w3:IntKind.wrap .i64 (((xs.length+1:Nat):Int)-(k:Int))=((xs.length+1-k:Nat):Int):=by rw[gi (by omega)];omega
 simp only[w1,w2,w3,aL,p];refine aE (fun hgt=>?_) fun hle=>?_
 ·
  have P:s.cap=xs.length:=by omega
  refine Join.plain ⟨by omega,⟨by omega,by omega,by omega,by omega⟩,fun hin=>?_,fun F=>?_⟩
  ·omega
  ·refine⟨A,_,?_,rfl,by omega,Go.growslice_fits F (by omega),fun D w=>?_⟩
   ·rw[sub_zero]
    exact jJ hc (by rw[g];omega) (by simp only[dA,eH];rw[ax,←g,ey (aq _),cQ])
   ·simp only[aL]at w⊢
    have U:=Upd.hnew No h (A++db (xs.length+1-k) [.pointer none]++db (D-(k-0+(xs.length+1-k))) [.pointer none]) bl;have bn:=bN h (A++db (xs.length+1-k) [.pointer none]++db (D-(k-0+(xs.length+1-k))) [.pointer none]) bl;have z:(db (xs.length+1-k) [.pointer none]).length=(xs.length+1-k)*1:=jD _ _;have hz2:(db (D-(k-0+(xs.length+1-k))) [.pointer none]).length=(D-(k-0+(xs.length+1-k)))*1:=jD _ _
    have o:k-0+(xs.length+1-k)=xs.length+1:=by omega
    rw[cr];have hsz:h.size≠m:=fun e=>by have:=aW E;omega
    have S:h.size≠b:=fun e=>by have:=aW hc;omega
    have Q:=U.get0 hc;have L:=U.get0 E;generalize hnew h _ bl=h9 at U bn Q L;rw[o]at w hz2⊢;have m1:dt 1 (xs.length+1-k)=1:=bK (by omega);have m2:dt (xs.length-k) (xs.length+1-(k+1))=xs.length-k:=bK (by omega);rw[m1];have xr9:SRow h9 (some ⟨m,0,none⟩) (1*1) X:=jJ L (by rw[c]) (by rw[dA,bC];rw[c];omega)
    refine⟨by omega,?_⟩;rw[ip (by omega)];refine i4 xr9 y bn (by simp only[ad,g,z];omega) fun V N u=>⟨by omega,?_⟩
    simp only[Bd];rw[ip (by omega),ip (by omega),m2];refine⟨by omega,?_⟩;have C:=u.get Q (fun e=>S e.symm)
    have br:SRow V (some ⟨b,0+k*1,none⟩) ((xs.length-k)*1) B:=jJ C t (by
     rw[aC,ax,←g,gI,←t,gG])
    refine i4 br d N ?_ fun h16 I O=>?_
    ·simp only[ad,aK,aM,g,z,c];omega
    ·refine W _ _ ⟨by simp;omega,oc,w,.inr ⟨h.size,db (D-(xs.length+1)) [.pointer none],rfl,hM _ (aq _),?_,by rw[jD];rfl⟩⟩ ((U.wide.trans (M':=(· =h.size)) u fun b n=>.inl (n▸hM _ (aq _))).trans (M':=(· =h.size)) O fun b n=>.inl (n▸hM _ (aq _)))
     rw[I,a];have:=DZ (A:=A) (X:=X) (B:=B) (Z1:=db (xs.length+1-k) [.pointer none]) (Z2:=db (D-(xs.length+1)) [.pointer none]) (r:=(xs.length-k)*1) g c (by rw[z,←fk];congr 1;omega);rw[o,←this];simp only[aC,fk,nV]
 ·have P:xs.length+1≤s.cap:=by omega
  refine⟨by omega,?_⟩;simp only[Bd,eH];rw[sub_zero,ip (show s.cap≠k+1 by omega),ip (show s.cap≠k by omega)]
  refine⟨by omega,?_⟩;have hrl:1≤j.length:=by rw[hr];exact mn _ (by omega)
  refine DQ E hc J (by rw[cT,ad];omega) ?_;refine aB.2 ⟨by omega,by omega,?_⟩
  have m1:dt 1 (xs.length+1-k)=1:=bK (by omega);have m2:dt (xs.length+1-k) (xs.length+1-(k+1))=xs.length-k:=by
   rw[show xs.length+1-(k+1)=xs.length-k by omega];exact mY (by omega)
  rw[m2];have br:SRow h (some ⟨b,0+k*1,none⟩) ((xs.length-k)*1) B:=jJ hc t (by
   rw[aC,ax,←g,gI,←t,gG])
  refine i4 br d hc (by simp only[ad,g,t];omega) fun h1 hb1 G=>⟨by omega,?_⟩
  rw[m1];have Z:SRow h1 (some ⟨m,0,none⟩) (1*1) X:=jJ (G.get E J) (by rw[c]) (by rw[dA,bC];rw[c];omega);refine i4 Z y hb1 (by simp only[ad,aK,aM,g,t];omega) fun h2 hb2 Y=>?_
  refine W _ _ ⟨by simp;omega,oc,P,.inr ⟨b,j.drop 1,rfl,n,?_,?_⟩⟩ ((G.mono fun _ e=>.inl (e▸n)).tr (Y.mono fun _ e=>.inl (e▸n)))
  ·rw[hb2,a]
   have:=Hk (A:=A) (X:=X) (B:=B) (R:=j) (q:=1) (r:=(xs.length-k)*1) g t hrl;rw[←this];simp only[aC,fk,nV]
  ·rw[aM,hr]
   simp only;rw[p];omega
abbrev xN(x:Option Addr):List Value:= [.pointer x]
theorem pg(x:Option Addr):(xN x).length=1∧0<1:=⟨rfl,by omega⟩
theorem DR:∀xs:List (Option Addr),bR (xs.flatMap xN)=true
 | []=>rfl
 |x::xs=>by rw[bi];exact j3 rfl (DR xs)
theorem DN{h:ac}{a b o d c e f:Nat}{j cw:Array Value}{k tb:TypeId}(g:h[a]? =some (.cells j k (0,0))) (m:h[b]? =some (.cells cw tb (0,0))) (p:a≠b) (q:cw.size≠0) {K:Bool→ac→Prop} (n:K false h):
  HC PG fF [.slice (some ⟨a,0,none⟩) d c,.slice (some ⟨b,o,none⟩) e f] [.c .bool] K h:=by
 refine⟨fun w i=>.inr ⟨.bool false,w,?_,Tame.refl w,false,rfl,i▸n⟩⟩
 subst i;rw[mS];have:=Lib.run_overlaps_apart (P:=PG) w mH rH bv (by kernel_rfl) (bJ PG bv) (nB (by kernel_rfl)) ⟨a,0,none⟩ ⟨b,o,none⟩ d c e f p k tb j.size cw.size
  (by simp[World.shape?,g]) (by simp[World.shape?,m]) q (by simp[World.frozen?,g]) (by simp[World.frozen?,g])
 rw[show([Value.slice (some ⟨a,0,none⟩) d c,Value.slice (some ⟨b,o,none⟩) e f]:List Value).toArray= #[.slice (some ⟨a,0,none⟩) d c,.slice (some ⟨b,o,none⟩) e f]from rfl,this]
 rfl
set_option maxRecDepth 4000 in
theorem Hh{M:Nat→Prop}{h:ac}{s:SliceV}{xs:List (Option Addr)}(T:OwnS xN 1 bv M h s xs){k:Nat}(hkl:k≤xs.length)(hn:(xs.length+1)*8≤140737488355328){x:Option Addr}{m:Nat}(E:h[m]? =some (.cells (xN x).toArray bv (0,0)))
  (hvM:¬M m) (hM:∀b,h.size≤b→M b) {K:SliceV→ac→Prop} (W:∀s' h',OwnS xN 1 bv M h' s' (xs.take k++x::xs.drop k)→Upd M h h'→K s' h'):
  HC PG dD [.slice s.a s.len s.cap,.int .i64 k,.slice (some ⟨m,0,none⟩) 1 1] [.c .slice] K h:=by
 refine iz s k ⟨some ⟨m,0,none⟩,1,1⟩ ?_;unfold eS;have p:=T.len;have hcap:=T.cap;have H:SRow h (some ⟨m,0,none⟩) (1*1) (xN x):=⟨rfl,.inr ⟨_,rfl,qe E fun i v hi=>by simpa using hi⟩⟩
 refine⟨by omega,ak.2 ?_⟩;refine CondP.intro (fun e=>?_) fun e=>?_
 ·have e:k=xs.length:=by have:=of_decide_eq_true (by simpa using e:decide ((k:Int)=(s.len:Int))=true);omega
  subst e;refine⟨_,H,AppP.own (ys:= [x]) T rfl (by simp) rfl rfl (by omega) (by simp;omega) (hM _ (aq _)) fun s' h' ho hu=>W s' h' ?_ hu⟩
  rw[cQ,List.drop_length];exact ho
 have hlt:k<xs.length:=by
  rcases cd k xs.length with h|h
  ·exact h
  ·have:((k:Int)==(s.len:Int))=true:=by rw[beq_iff_eq];omega
   rw[this]at e;cases e
 rcases T.blk with h0|⟨b,j,ha,n,hc,hr⟩
 ·omega
 have g:((xs.take k).flatMap xN).length=k*1:=by rw[iT pg,aK,bK hkl]
 have t:((xs.drop k).flatMap xN).length=(xs.length-k)*1:=by rw[iT pg,aM]
 have J:m≠b:=fun e=>hvM (e▸n)
 rw[vz (f:=xN) xs k]at hc;have a:(xs.take k++x::xs.drop k).flatMap xN=(xs.take k).flatMap xN++(xN x++(xs.drop k).flatMap xN):=by rw[bV,bi]
 have d:=DR (xs.drop k);have c:(xN x).length=1:=rfl;have y:bR (xN x)=true:=rfl;generalize hAe:(xs.take k).flatMap xN=A at g hc a;generalize hBe:(xs.drop k).flatMap xN=B at t hc a d;generalize xN x=X at H c E a y;rw[ha];have w1:IntKind.wrap .i64 ((xs.length:Int)+((1:Nat):Int))=((xs.length+1:Nat):Int):=by rw[gi (by omega)];omega
 have w2:IntKind.wrap .i64 ((k:Int)+((1:Nat):Int))=((k+1:Nat):Int):=by rw[gi (by omega)];omega
 have w3:IntKind.wrap .i64 (((xs.length+1:Nat):Int)-(k:Int))=((xs.length+1-k:Nat):Int):=by rw[gi (by omega)];omega
 simp only[w1,w2,w3,aL,p];refine aE (fun hgt=>?_) fun hle=>?_
 ·
  have P:s.cap=xs.length:=by omega
  refine Join.plain ⟨by omega,⟨by omega,by omega,by omega,by omega⟩,fun hin=>?_,fun F=>?_⟩
  ·omega
  ·refine⟨A,_,?_,rfl,by omega,Go.growslice_fits F (by omega),fun D w=>?_⟩
   ·rw[sub_zero]
    exact jJ hc (by rw[g];omega) (by simp only[dA,eH];rw[ax,←g,ey (aq _),cQ])
   ·simp only[aL]at w⊢
    have U:=Upd.hnew No h (A++db (xs.length+1-k) [.pointer none]++db (D-(k-0+(xs.length+1-k))) [.pointer none]) bv;have bn:=bN h (A++db (xs.length+1-k) [.pointer none]++db (D-(k-0+(xs.length+1-k))) [.pointer none]) bv;have z:(db (xs.length+1-k) [.pointer none]).length=(xs.length+1-k)*1:=jD _ _;have hz2:(db (D-(k-0+(xs.length+1-k))) [.pointer none]).length=(D-(k-0+(xs.length+1-k)))*1:=jD _ _
    have o:k-0+(xs.length+1-k)=xs.length+1:=by omega
    rw[cr];have hsz:h.size≠m:=fun e=>by have:=aW E;omega
    have S:h.size≠b:=fun e=>by have:=aW hc;omega
    have Q:=U.get0 hc;have L:=U.get0 E;generalize hnew h _ bv=h9 at U bn Q L;rw[o]at w hz2⊢;have m1:dt 1 (xs.length+1-k)=1:=bK (by omega);have m2:dt (xs.length-k) (xs.length+1-(k+1))=xs.length-k:=bK (by omega);rw[m1];have xr9:SRow h9 (some ⟨m,0,none⟩) (1*1) X:=jJ L (by rw[c]) (by rw[dA,bC];rw[c];omega)
    refine⟨by omega,?_⟩;rw[ip (by omega)];refine i4 xr9 y bn (by simp only[ad,g,z];omega) fun V N u=>⟨by omega,?_⟩
    simp only[Bd];rw[ip (by omega),ip (by omega),m2];refine⟨by omega,?_⟩;have C:=u.get Q (fun e=>S e.symm)
    have br:SRow V (some ⟨b,0+k*1,none⟩) ((xs.length-k)*1) B:=jJ C t (by
     rw[aC,ax,←g,gI,←t,gG])
    refine i4 br d N ?_ fun h16 I O=>?_
    ·simp only[ad,aK,aM,g,z,c];omega
    ·refine W _ _ ⟨by simp;omega,pg,w,.inr ⟨h.size,db (D-(xs.length+1)) [.pointer none],rfl,hM _ (aq _),?_,by rw[jD];rfl⟩⟩ ((U.wide.trans (M':=(· =h.size)) u fun b n=>.inl (n▸hM _ (aq _))).trans (M':=(· =h.size)) O fun b n=>.inl (n▸hM _ (aq _)))
     rw[I,a];have:=DZ (A:=A) (X:=X) (B:=B) (Z1:=db (xs.length+1-k) [.pointer none]) (Z2:=db (D-(xs.length+1)) [.pointer none]) (r:=(xs.length-k)*1) g c (by rw[z,←fk];congr 1;omega);rw[o,←this];simp only[aC,fk,nV]
 ·have P:xs.length+1≤s.cap:=by omega
  refine⟨by omega,?_⟩;simp only[Bd,eH];rw[sub_zero,ip (show s.cap≠k+1 by omega),ip (show s.cap≠k by omega)]
  refine⟨by omega,?_⟩;have hrl:1≤j.length:=by rw[hr];exact mn _ (by omega)
  refine DN E hc J (by rw[cT,ad];omega) ?_;refine aB.2 ⟨by omega,by omega,?_⟩
  have m1:dt 1 (xs.length+1-k)=1:=bK (by omega);have m2:dt (xs.length+1-k) (xs.length+1-(k+1))=xs.length-k:=by
   rw[show xs.length+1-(k+1)=xs.length-k by omega];exact mY (by omega)
  rw[m2];have br:SRow h (some ⟨b,0+k*1,none⟩) ((xs.length-k)*1) B:=jJ hc t (by
   rw[aC,ax,←g,gI,←t,gG])
  refine i4 br d hc (by simp only[ad,g,t];omega) fun h1 hb1 G=>⟨by omega,?_⟩
  rw[m1];have Z:SRow h1 (some ⟨m,0,none⟩) (1*1) X:=jJ (G.get E J) (by rw[c]) (by rw[dA,bC];rw[c];omega);refine i4 Z y hb1 (by simp only[ad,aK,aM,g,t];omega) fun h2 hb2 Y=>?_
  refine W _ _ ⟨by simp;omega,pg,P,.inr ⟨b,j.drop 1,rfl,n,?_,?_⟩⟩ ((G.mono fun _ e=>.inl (e▸n)).tr (Y.mono fun _ e=>.inl (e▸n)))
  ·rw[hb2,a]
   have:=Hk (A:=A) (X:=X) (B:=B) (R:=j) (q:=1) (r:=(xs.length-k)*1) g t hrl;rw[←this];simp only[aC,fk,nV]
  ·rw[aM,hr]
   simp only;rw[p];omega
end Go.Proofs
namespace Go.Proofs
open Go Go.Lift
theorem ua{W:Nat→Prop}{h:ac}{s:SliceV}{xs:List (ByteArray×ByteArray)}(c:Sl eA 2 W h s xs)(n:xs.length*32≤140737488355328){K:SliceV→ac→Prop}
  (e:∀s' h',OwnS eA 2 af (fun b=>h.size≤b) h' s' xs→Upd No h h'→K s' h'):HC PG cH [.slice s.a s.len s.cap] [.c .slice] K h:=by
 refine kG s ?_;unfold gb nW;refine CondP.intro (fun d=>?_) (fun m=>?_)
 ·have d:s.a=none:=by simpa using d
  have hx:xs= []:=by
   by_cases hx:xs= []
   ·exact hx
   ·obtain⟨a,g,_⟩:=c.row hx
    rw[d]at g;cases g
  subst hx;exact e _ _ (OwnS.nil ia) (Upd.refl _ _)
 ·have o:=c.upd (Upd.hnew No h [] af) (fun _ h=>h.elim)
  refine⟨_,o.srow,?_⟩;refine AppP.own (f:=eA) (M:=fun b=>h.size≤b) (xs:= []) (ys:=xs) ⟨rfl,ia,aq _,.inl rfl⟩ c.len rfl (tV xs) rfl (by omega) (by simpa using n) (by rw[gX];omega) fun s' h' i k=>?_
  exact e _ _ i ((Upd.hnew No h [] af).trans k fun b j=>.inr j)
theorem Hv{M:Nat→Prop}{h:ac}{s:SliceV}{xs:List (ByteArray×ByteArray)}(q:OwnS eA 2 af M h s xs){k:Nat}(y:k<xs.length)(N:xs.length≤4398046511104)
  {K:SliceV→ac→Prop}(G:∀s' h',OwnS eA 2 af M h' s' (xs.take k++xs.drop (k+1))→Upd M h h'→K s' h'):
  HC PG ed [.slice s.a s.len s.cap,.int .i64 k,.int .i64 ((k+1:Nat):Int)] [.c .slice] K h:=by
 refine kh s k ((k+1:Nat):Int) ?_;unfold fZ nW;have d:=q.len;have C:=q.cap;rcases q.blk with Q|⟨b,a,F,v,hc,H⟩
 ·omega
 have p:((xs.take k).flatMap eA).length=k*2:=by rw[iT ia,aK,bK (by omega)]
 have m:((xs.drop (k+1)).flatMap eA).length=(xs.length-(k+1))*2:=by rw[iT ia,aM]
 have I:xs.flatMap eA=(xs.take k).flatMap eA++(eA xs[k]++(xs.drop (k+1)).flatMap eA):=by
  rw[←bi,←kz y];exact vz xs k
 rw[I]at hc;have f:=tV (xs.drop (k+1));have c:(xs.take k++xs.drop (k+1)).flatMap eA=(xs.take k).flatMap eA++(xs.drop (k+1)).flatMap eA:=bV;have E:(eA xs[k]).length=2:=rfl;generalize (xs.take k).flatMap eA=A at p hc c;generalize (xs.drop (k+1)).flatMap eA=B at m hc f c;generalize eA xs[k]=X at E hc;rw[F];simp only[d,aL];refine⟨by omega,by omega,by omega,CondP.intro (fun e=>?_) fun _=>?_⟩
 ·have:(k:Int)=((k+1:Nat):Int):=by simpa using e
  omega
 refine Join.plain ⟨by omega,by omega,B,?_,?_⟩
 ·by_cases i:xs.length=k+1
  ·exact⟨m,.inl (aD.1 (by rw[m,i,fO,Nat.zero_mul]))⟩
  rw[ip (by omega)];refine jJ hc m ?_;have:(A++X).length=0+(k+1)*2:=by rw[ad];omega
  rw[show A++(X++B)++a=(A++X)++(B++a) by simp only[ax],cp this,de m]
 ·rw[sub_zero]
  refine LM hc (by simp only[ad];omega) (by omega) f fun P j t=>?_
  have z:a.length=(s.cap-xs.length)*2:=by rw[H,d]
  refine⟨by dsimp only;omega,by dsimp only;omega,?_⟩
  simp only[Bd];rw[ip (by omega)];have L:xs.length-(k-0+(xs.length-(k+1)))=1:=by omega
  have x:(A++(X++B)++a).drop ((k-0)*2+B.length)=(X++B).drop B.length++a:=by
   rw[ax,←cV,cp (show A.length=(k-0)*2 by rw[p,eH]),fW (by rw[ad];omega)]
  have w:(A++(X++B)++a).take ((k-0)*2)=A:=by rw[ax,de (show A.length=(k-0)*2 by rw[p,eH])]
  rw[x,w]at j;have n:((X++B).drop B.length).length=2:=by rw[aM,ad];omega
  generalize (X++B).drop B.length=D at n j;rw[L];have J:(db 1 [.string (⟨#[]⟩:ByteArray),.string (⟨#[]⟩:ByteArray)]).length=2:=rfl;have g:(A++B).length=0+(k-0+(xs.length-(k+1)))*2:=by rw[ad,p,m];omega
  refine DK j (by simp only[ad]at g⊢;omega) fun O o u=>?_
  rw[de g,←cV,cp g]at o;refine G _ _ ⟨by simp;omega,ia,by simp only;omega,.inr ⟨b,db 1 [.string (⟨#[]⟩:ByteArray),.string (⟨#[]⟩:ByteArray)]++(D++a).drop (db 1 [.string (⟨#[]⟩:ByteArray),.string (⟨#[]⟩:ByteArray)]).length,rfl,v,?_,?_⟩⟩ ((t.mono fun _ e=>.inl (e▸v)).tr (u.mono fun _ e=>.inl (e▸v)))
  ·rw[o,c];simp only[ax]
  ·simp only[ad,aM,J,n,z]
   omega
theorem yi{W:Nat→Prop}{h:ac}{s:SliceV}{xs:List (Option Addr)}(c:Sl pn 1 W h s xs)(n:xs.length*8≤140737488355328){K:SliceV→ac→Prop}
  (e:∀s' h',OwnS pn 1 bl (fun b=>h.size≤b) h' s' xs→Upd No h h'→K s' h'):HC PG cW [.slice s.a s.len s.cap] [.c .slice] K h:=by
 refine jl s ?_;unfold fx;refine CondP.intro (fun d=>?_) (fun m=>?_)
 ·have d:s.a=none:=by simpa using d
  have hx:xs= []:=by
   by_cases hx:xs= []
   ·exact hx
   ·obtain⟨a,g,_⟩:=c.row hx
    rw[d]at g;cases g
  subst hx;exact e _ _ (OwnS.nil oc) (Upd.refl _ _)
 ·have o:=c.upd (Upd.hnew No h [] bl) (fun _ h=>h.elim)
  refine⟨_,o.srow,?_⟩;refine AppP.own (f:=pn) (M:=fun b=>h.size≤b) (xs:= []) (ys:=xs) ⟨rfl,oc,aq _,.inl rfl⟩ c.len rfl (zQ xs) rfl (by omega) (by simpa using n) (by rw[gX];omega) fun s' h' i k=>?_
  exact e _ _ i ((Upd.hnew No h [] bl).trans k fun b j=>.inr j)
theorem Hw{M:Nat→Prop}{h:ac}{s:SliceV}{xs:List (Option Addr)}(q:OwnS pn 1 bl M h s xs){k:Nat}(y:k<xs.length)(N:xs.length≤4398046511104)
  {K:SliceV→ac→Prop}(G:∀s' h',OwnS pn 1 bl M h' s' (xs.take k++xs.drop (k+1))→Upd M h h'→K s' h'):
  HC PG dK [.slice s.a s.len s.cap,.int .i64 k,.int .i64 ((k+1:Nat):Int)] [.c .slice] K h:=by
 refine ja s k ((k+1:Nat):Int) ?_;unfold fj;have d:=q.len;have C:=q.cap;rcases q.blk with Q|⟨b,a,F,v,hc,H⟩
 ·omega
 have p:((xs.take k).flatMap pn).length=k*1:=by rw[iT oc,aK,bK (by omega)]
 have m:((xs.drop (k+1)).flatMap pn).length=(xs.length-(k+1))*1:=by rw[iT oc,aM]
 have I:xs.flatMap pn=(xs.take k).flatMap pn++(pn xs[k]++(xs.drop (k+1)).flatMap pn):=by
  rw[←bi,←kz y];exact vz xs k
 rw[I]at hc;have f:=zQ (xs.drop (k+1));have c:(xs.take k++xs.drop (k+1)).flatMap pn=(xs.take k).flatMap pn++(xs.drop (k+1)).flatMap pn:=bV;have E:(pn xs[k]).length=1:=rfl;generalize (xs.take k).flatMap pn=A at p hc c;generalize (xs.drop (k+1)).flatMap pn=B at m hc f c;generalize pn xs[k]=X at E hc;rw[F];simp only[d,aL];refine⟨by omega,by omega,by omega,CondP.intro (fun e=>?_) fun _=>?_⟩
 ·have:(k:Int)=((k+1:Nat):Int):=by simpa using e
  omega
 refine Join.plain ⟨by omega,by omega,B,?_,?_⟩
 ·by_cases i:xs.length=k+1
  ·exact⟨m,.inl (aD.1 (by rw[m,i,fO,Nat.zero_mul]))⟩
  rw[ip (by omega)];refine jJ hc m ?_;have:(A++X).length=0+(k+1)*1:=by rw[ad];omega
  rw[show A++(X++B)++a=(A++X)++(B++a) by simp only[ax],cp this,de m]
 ·rw[sub_zero]
  refine LM hc (by simp only[ad];omega) (by omega) f fun P j t=>?_
  have z:a.length=(s.cap-xs.length)*1:=by rw[H,d]
  refine⟨by dsimp only;omega,by dsimp only;omega,?_⟩
  simp only[Bd];rw[ip (by omega)];have L:xs.length-(k-0+(xs.length-(k+1)))=1:=by omega
  have x:(A++(X++B)++a).drop ((k-0)*1+B.length)=(X++B).drop B.length++a:=by
   rw[ax,←cV,cp (show A.length=(k-0)*1 by rw[p,eH]),fW (by rw[ad];omega)]
  have w:(A++(X++B)++a).take ((k-0)*1)=A:=by rw[ax,de (show A.length=(k-0)*1 by rw[p,eH])]
  rw[x,w]at j;have n:((X++B).drop B.length).length=1:=by rw[aM,ad];omega
  generalize (X++B).drop B.length=D at n j;rw[L];have J:(db 1 [.pointer none]).length=1:=rfl;have g:(A++B).length=0+(k-0+(xs.length-(k+1)))*1:=by rw[ad,p,m];omega
  refine DK j (by simp only[ad]at g⊢;omega) fun O o u=>?_
  rw[de g,←cV,cp g]at o;refine G _ _ ⟨by simp;omega,oc,by simp only;omega,.inr ⟨b,db 1 [.pointer none]++(D++a).drop (db 1 [.pointer none]).length,rfl,v,?_,?_⟩⟩ ((t.mono fun _ e=>.inl (e▸v)).tr (u.mono fun _ e=>.inl (e▸v)))
  ·rw[o,c];simp only[ax]
  ·simp only[ad,aM,J,n,z]
   omega
theorem Dh{W:Nat→Prop}{h:ac}{s:SliceV}{xs:List (Option Addr)}(c:Sl xN 1 W h s xs)(n:xs.length*8≤140737488355328){K:SliceV→ac→Prop}
  (e:∀s' h',OwnS xN 1 bv (fun b=>h.size≤b) h' s' xs→Upd No h h'→K s' h'):HC PG cJ [.slice s.a s.len s.cap] [.c .slice] K h:=by
 refine iU s ?_;unfold fc;refine CondP.intro (fun d=>?_) (fun m=>?_)
 ·have d:s.a=none:=by simpa using d
  have hx:xs= []:=by
   by_cases hx:xs= []
   ·exact hx
   ·obtain⟨a,g,_⟩:=c.row hx
    rw[d]at g;cases g
  subst hx;exact e _ _ (OwnS.nil pg) (Upd.refl _ _)
 ·have o:=c.upd (Upd.hnew No h [] bv) (fun _ h=>h.elim)
  refine⟨_,o.srow,?_⟩;refine AppP.own (f:=xN) (M:=fun b=>h.size≤b) (xs:= []) (ys:=xs) ⟨rfl,pg,aq _,.inl rfl⟩ c.len rfl (DR xs) rfl (by omega) (by simpa using n) (by rw[gX];omega) fun s' h' i k=>?_
  exact e _ _ i ((Upd.hnew No h [] bv).trans k fun b j=>.inr j)
end Go.Proofs
namespace Go.Proofs
open Go.Lift
abbrev Pr:=ByteArray×ByteArray
theorem yj{a b:ByteArray}:a.toList=b.toList↔a=b:=by
 constructor
 ·intro h
  rw[ByteArray.toList_eq,ByteArray.toList_eq]at h;cases a;cases b;simp at h;subst h;rfl
 ·rintro rfl;rfl
def kl(a b:ByteArray):Prop:=Op.bytesLess a.toList b.toList=true
instance (a b:ByteArray):Decidable (kl a b):=inferInstanceAs (Decidable (_=true))
theorem Ha{a b:ByteArray}:kl a b↔a.toList<b.toList:=by unfold kl;rw[bytesLess_eq,decide_eq_true_iff]
theorem cP(a:ByteArray):¬kl a a:=by rw[Ha];exact List.lt_irrefl _
theorem g5{a b c:ByteArray}(h:kl a b)(k:kl b c):kl a c:=by rw[Ha]at*;exact List.lt_trans h k
theorem tri:∀x y:List UInt8,Op.bytesLess x y=false→x≠y→Op.bytesLess y x=true
 | [],[],_,h=>absurd rfl h
 | [],_::_,h,_=>by simp[Op.bytesLess]at h
 |_::_,[],_,_=>rfl
 |a::x,b::y,h,hn=>by
  simp only[Op.bytesLess,Bool.or_eq_false_iff,decide_eq_false_iff_not,Bool.and_eq_false_iff]at h;simp only[Op.bytesLess,Bool.or_eq_true,decide_eq_true_iff,Bool.and_eq_true];by_cases e:a=b
  ·subst e
   right;refine⟨by simp,tri x y ?_ fun e=>hn (by rw[e])⟩
   rcases h.2 with h|h
   ·simp at h
   ·exact h
  ·left
   have c:=h.1;rw[UInt8.lt_iff_toNat_lt]at c⊢;have:a.toNat≠b.toNat:=fun h=>e (UInt8.toNat_inj.1 h)
   omega
theorem qM{a b:ByteArray}(h:¬kl a b)(k:a≠b):kl b a:=tri _ _ (by unfold kl at h;simpa using h) fun e=>k (yj.1 e)
def Ca(a b:ByteArray):Int:=if kl a b then-1 else if a=b then 0 else 1
theorem Fv{x:ByteArray}{h:ac}{K:Bool→ac→Prop}(a:K false h):HC PG lg [.string x] [.c .bool] K h:=by
 refine zN x ?_;unfold sr;simpa using a
theorem Bg{a b:ByteArray}{h:ac}{K:Int→ac→Prop}(c:K (Ca a b) h):HC PG jx [.string a,.string b] [.c (.int .i64)] K h:=by
 refine xm a b ?_;unfold qG;refine Fv (Fv (ak.2 (ak.2 ?_)));unfold Ca at c;refine CondP.intro (fun e=>?_) fun e=>?_
 ·rw[if_pos (show kl a b from e)]at c;exact c
 ·have f:¬kl a b:=fun h=>by rw[show Op.bytesLess a.toList b.toList=true from h]at e;cases e
  rw[if_neg f]at c;rw[e];refine CondP.intro (fun d=>?_) fun d=>?_
  ·rw[if_neg (fun h=>by subst h;simp at d)]at c;exact c
  ·have:a.toList=b.toList:=by simpa using d
   rw[if_pos (yj.1 this)]at c;exact c
theorem Ff{p:Pr}{k:ByteArray}{h:ac}{K:Int→ac→Prop}(a:∀h',Upd No h h'→K (Ca p.1 k) h'):HC PG l3 [.agg #[.string p.1,.string p.2],.string k] [.c (.int .i64)] K h:=by
 refine Eo p k ?_;unfold xt al kB sF;have b1:=bN h [.string p.1,.string p.2] af;refine⟨p.1,by rw[cr,bO,aP b1];rfl,Bg (a _ (Upd.hnew No h _ _))⟩
abbrev di(l:List Pr):Prop:=l.Pairwise fun p q=>kl p.1 q.1
def pos(l:List Pr)(k:ByteArray):Nat:=(l.takeWhile fun p=>decide (kl p.1 k)).length
def dQ(l:List Pr)(k:ByteArray):Bool:=l.any fun p=>decide (p.1=k)
theorem KW{l:List Pr}{k:ByteArray}{i:Nat}(hi:i≤l.length)(b:∀j (h:j<l.length),j<i→kl l[j].1 k)(a:∀(h:i<l.length),¬kl l[i].1 k):pos l k=i:=by
 unfold pos;induction l generalizing i with
 |nil=>simp at hi;simp[hi]
 |cons p l ih=>
  rw[List.takeWhile_cons];cases i with
  |zero=>
   have:=a (by simp);simp only[List.getElem_cons_zero]at this;rw[if_neg (by simpa using this)];rfl
  |succ i=>
   have:=b 0 (by simp) (by omega);simp only[List.getElem_cons_zero]at this;rw[if_pos (by simpa using this),az];congr 1
   refine ih (by simpa using hi) (fun j c d=>?_) fun h=>?_
   ·have:=b (j+1) (by simpa using c) (by omega)
    simpa using this
   ·have:=a (by simpa using h)
    simpa using this
theorem NT(l:List Pr)(k:ByteArray):pos l k≤l.length:=by
 unfold pos;exact(List.takeWhile_prefix _).length_le
theorem IB{W:Nat→Prop}{h:ac}{s:SliceV}{l:List Pr}(U:Sl eA 2 W h s l)(hr:di l)(hn:l.length≤1000000000)(k:ByteArray){K:Int×Bool→ac→Prop}
  (E:∀h',Upd No h h'→K ((pos l k:Int),dQ l k) h'):HC PG qk [.slice s.a s.len s.cap,.string k] [.c (.int .i64),.c .bool] K h:=by
 refine F4 s k ?_;unfold zo;refine gk s k _ ?_;unfold dS dw bD pf rc;have hlen:=U.len;have O:∀{p:Pr} {h:ac} {K:Int→ac→Prop},(∀h',Upd No h h'→K (Ca p.1 k) h')→HV PG (.func (.func l3) #[] #[]) [.agg #[.string p.1,.string p.2],.string k] [.c (.int .i64)] K h:=fun E=>HV.mk' (Ff E)
 refine LoopP.ghost (fun(g:Nat×Nat) (t:Int×Int) h'=>t.1=(g.1:Int)∧t.2=(g.2:Int)∧g.1≤g.2∧g.2≤l.length∧Upd No h h'∧(∀j (R:j<l.length),j<g.1→kl l[j].1 k)∧(∀j (R:j<l.length),g.2≤j→¬kl l[j].1 k)) (fun g=>g.2-g.1) (0,l.length)
  ⟨rfl,by simp only;omega,by simp,by simp,Upd.refl _ _,fun j R h=>by omega,fun j R h=>by simp only at h;omega⟩ ?_
 rintro I ⟨i,j⟩ ⟨ti,tj⟩ h' ⟨Y,X,C,z,J,f,w⟩ Z;simp only at Y X C z f w;subst Y X;have L:=U.upd J fun _ h=>h.elim
 have mono:∀a b (D:a<l.length) (V:b<l.length),a<b→kl l[a].1 l[b].1:=fun a b D V S=>dd.1 hr a b D V S
 refine aE (fun v=>?_) fun T=>?_
 ·have v:i<j:=by have:(i:Int)<(j:Int):=v;omega
  have em:IntKind.wrap .i64 (eR (IntKind.wrap .u64 (IntKind.wrap .i64 ((i:Int)+(j:Int)))) (2^(min (1:Int).toNat (IntKind.bits .u64))))=(((i+j)/2:Nat):Int):=by
   have e3:(2^(min (1:Int).toNat (IntKind.bits .u64)):Int)=2:=rfl;rw[e3,gi (x:=(i:Int)+(j:Int)) (by omega),Go.IntWalk.u64_in _ (by omega),Int.fdiv_eq_ediv_of_nonneg _ (by omega),gi (by omega)];omega
  refine⟨by decide,?_⟩;simp only[Bd];rw[em];generalize hm:(i+j)/2=m;have A:m<l.length:=by omega
  obtain⟨a,D,_,H⟩:=L.at (ag A);refine⟨by omega,a,D,l[m].1,H 0 _ rfl,l[m].2,H 1 _ rfl,O fun h2 u=>?_⟩
  refine aE (fun d=>?_) fun G=>?_
  ·have c:kl l[m].1 k:=by
    unfold Ca at d;by_cases c:kl l[m].1 k
    ·exact c
    ·rw[if_neg c]at d;split at d<;>omega
   refine Z (m+1,j) _ _ ⟨by simp only;rw[gi (by omega)];omega,rfl,by simp only;omega,z,J.tr u,fun q y B=>?_,w⟩ (by simp only;omega)
   simp only at B;rcases cd q m with h|h
   ·exact g5 (mono q m y A h) c
   ·have:q=m:=by omega
    subst this;exact c
  ·have o:¬kl l[m].1 k:=fun c=>G (by unfold Ca;rw[if_pos c];decide)
   refine Z (i,m) _ _ ⟨rfl,rfl,by simp only;omega,by simp only;omega,J.tr u,f,fun q y B N=>?_⟩ (by simp only;omega)
   simp only at B;rcases cd m q with h|h
   ·exact o (g5 (mono m q A y h) N)
   ·have:q=m:=by omega
    subst this;exact o N
 ·have C:i=j:=by have:¬(i:Int)<(j:Int):=T;omega
  subst C;have F:pos l k=i:=KW z f fun hi=>w i hi (aq _)
  rw[F]at E;refine aE (fun v=>?_) fun Q=>?_
  ·have n:i<l.length:=by have:(i:Int)<(s.len:Int):=v;omega
   obtain⟨a,D,_,H⟩:=L.at (ag n);refine⟨by simp only;omega,a,D,l[i].1,H 0 _ rfl,l[i].2,H 1 _ rfl,O fun h2 u=>?_⟩
   have o:=w i n (aq _);have P:(Ca l[i].1 k==(0:Int))=dQ l k:=by
    unfold Ca dQ;rw[if_neg o,Bool.eq_iff_iff,bZ];constructor
    ·intro h
     split at h
     ·rename_i e;exact⟨l[i],List.getElem_mem n,decide_eq_true e⟩
     ·simp at h
    ·rintro⟨p,F,e⟩
     have e:=of_decide_eq_true e;obtain⟨q,y,rfl⟩:=List.mem_iff_getElem.1 F;have:q=i:=by
      rcases Nat.lt_trichotomy q i with h|h|h
      ·exact absurd (e▸f q y h) (cP _)
      ·exact h
      ·exact absurd (e▸mono i q n y h) o
     subst this;rw[if_pos e];rfl
   rw[P];exact E _ (J.tr u)
  ·have n:i=l.length:=by have:¬(i:Int)<(s.len:Int):=Q;omega
   have P:dQ l k=false:=by
    unfold dQ;rw[List.any_eq_false];intro p F e;have e:=of_decide_eq_true e;obtain⟨q,y,rfl⟩:=List.mem_iff_getElem.1 F;exact absurd (e▸f q y (by omega)) (cP _)
   rw[P]at E;exact E _ J
end Go.Proofs
namespace Go.Proofs
open Go.Lift
theorem OwnS.zero{α:Type}{f:α→List Value}{a:Nat}{t:TypeId}{M:Nat→Prop}{h:ac}{s:SliceV}{xs:List α}(d:OwnS f a t M h s xs):OwnS f a t M h ⟨aN s.a 0 s.cap a,0-0,s.cap-0⟩ []:=by
 have g:∀x,(f x).length=a∧0<a:=d.ne;have i:=d.len;have e:=d.cap;refine⟨rfl,g,by simp only;omega,?_⟩
 rcases d.blk with n|⟨b,c,m,j,hc,k⟩
 ·exact .inl (by simp only;omega)
 ·refine .inr ⟨b,xs.flatMap f++c,by rw[m,sub_zero],j,hc,?_⟩
  rw[ad,iT g,k,←Nat.add_mul];simp only;congr 1;omega
def Nx:Pr:=(⟨#[]⟩,⟨#[]⟩)
theorem H1(n:Nat):db n [.string (⟨#[]⟩:ByteArray),.string (⟨#[]⟩:ByteArray)]=(eE n Nx).flatMap eA:=by
 unfold db;induction n with
 |zero=>rfl
 |succ n ih=>rw[kJ,kJ,bi,←ih];rfl
theorem MH{n:Nat}(i:n*32≤140737488355328){h:ac}{K:SliceV→ac→Prop}(a:∀s' h',OwnS eA 2 af (fun b=>h.size≤b) h' s' []→Upd No h h'→K s' h'):
  HC PG eD [.slice none 0 0,.int .i64 n] [.c .slice] K h:=by
 refine kU ⟨none,0,0⟩ n ?_;unfold gh nW;have e:IntKind.wrap .i64 ((n:Int)-IntKind.wrap .i64 (((0:Nat):Int)-((0:Nat):Int)))=(n:Int):=by rw[gi (x:=((0:Nat):Int)-((0:Nat):Int)) (by omega),gi (by omega)];omega
 refine Join.plain (aE (fun h=>by omega) fun _=>?_)
 simp only[Bd];rw[e];refine aE (fun j=>?_) fun k=>a _ _ (OwnS.nil ia) (Upd.refl _ _)
 refine⟨by omega,⟨by omega,by omega,by omega,by omega⟩,?_⟩
 refine AppP.own (f:=eA) (M:=fun b=>h.size≤b) (xs:= []) (ys:=eE n Nx) (OwnS.nil ia) (by simp) (H1 _) (by rw[H1];exact tV _) rfl (by omega) (by simpa using i) (aq _) fun s' h' c g=>?_
 exact⟨by omega,a _ _ (OwnS.zero c) (g.mono fun b d=>.inr d)⟩
abbrev slF(s:SliceV):List Value:= [.slice s.a s.len s.cap]
def ParS(h:ac):List SliceV→List (List Pr)→Prop
 | [],[]=>True
 |v::vs,l::ls=>Sl eA 2 No h v l∧ParS h vs ls
 |_,_=>False
theorem ParS.upd{h h':ac}(k:Upd No h h'):∀{vs:List SliceV} {ls:List (List Pr)},ParS h vs ls→ParS h' vs ls
 | [],[],_=>trivial
 |_::_,_::_,q=>⟨q.1.upd k fun _ h=>h.elim,ParS.upd k q.2⟩
 | [],_::_,q=>q.elim
 |_::_,[],q=>q.elim
theorem ParS.len{h:ac}:∀{vs:List SliceV} {ls:List (List Pr)},ParS h vs ls→vs.length=ls.length
 | [],[],_=>rfl
 |_::_,_::_,q=>by rw[az,az,ParS.len q.2]
 | [],_::_,q=>q.elim
 |_::_,[],q=>q.elim
theorem ParS.at{h:ac}:∀{vs:List SliceV} {ls:List (List Pr)},ParS h vs ls→∀{i:Nat} (h1:i<vs.length) (h2:i<ls.length),Sl eA 2 No h vs[i] ls[i]
 |_::_,_::_,q,0,_,_=>q.1
 |_::_,_::_,q,i+1,h1,h2=>ParS.at q.2 (by simpa using h1) (by simpa using h2)
theorem Dc(ls:List (List Pr)){i:Nat}(hi:i<ls.length):(ls.take (i+1)).flatten=(ls.take i).flatten++ls[i]:=by
 rw[List.take_succ_eq_append_getElem hi,kK,jA,List.flatten_nil,List.append_nil]
theorem IA(ls:List (List Pr))(i:Nat):(ls.take i).flatten.length≤ls.flatten.length:=by
 have:ls.flatten=(ls.take i).flatten++(ls.drop i).flatten:=by rw[←kK,List.take_append_drop]
 rw[this,ad];omega
theorem JC{h:ac}{s:SliceV}{vs:List SliceV}{ls:List (List Pr)}(q:Sl slF 1 No h s vs)(z:ParS h vs ls)(L:ls.flatten.length*32≤140737488355328)(X:vs.length≤1000)
  {K:SliceV→ac→Prop}(P:∀s' h',OwnS eA 2 af (fun b=>h.size≤b) h' s' ls.flatten→Upd No h h'→K s' h'):HC PG ef [.slice s.a s.len s.cap] [.c .slice] K h:=by
 refine ki s ?_;unfold f6 bB dw nW;have F:=q.len;have e:=z.len;refine LoopP.ghost (fun(i:Nat) (t:Int×Int) h'=>t.2=(i:Int)∧i≤vs.length∧t.1=((ls.take i).flatten.length:Int)∧h'=h) (fun i=>vs.length-i) 0 ⟨rfl,cj _,by simp,rfl⟩ ?_
 rintro I i ⟨W,V⟩ h' ⟨m,hi,E,rfl⟩ O;simp only at m E;subst m E;refine aE (fun c=>?_) fun C=>?_
 ·have c:i<vs.length:=by have:(i:Int)<(s.len:Int):=c;omega
  obtain⟨a,v,_,f⟩:=q.at (ag c);have Q:=(z.at c (e▸c)).len;have d:=congrArg fV (Dc ls (e▸c));rw[ad]at d;have B:=IA ls (i+1);refine Join.plain ⟨by simp only;omega,a,v,_,f 0 _ rfl,?_⟩;simp only;have H:IntKind.wrap .i64 (((ls.take i).flatten.length:Int)+((vs[i]).len:Int))=((ls.take (i+1)).flatten.length:Int):=by rw[gi (by omega)];omega
  rw[H];refine aE (fun h=>by omega) fun _=>?_
  rw[ec c (by omega)];exact O (i+1) _ _ ⟨rfl,c,rfl,rfl⟩ (by omega)
 ·have N:i=vs.length:=by have:¬(i:Int)<(s.len:Int):=C;omega
  rw[bC (by omega)];refine MH L fun R h0 u A=>?_
  refine LoopP.ghost (fun(i:Nat) (t:SliceV×Int) D=>t.2=(i:Int)∧i≤vs.length∧OwnS eA 2 af (fun b=>h'.size≤b) D t.1 (ls.take i).flatten∧Upd No h' D) (fun i=>vs.length-i) 0 ⟨rfl,cj _,by simpa using u,A⟩ ?_
  rintro S j ⟨U,T⟩ D ⟨m,Y,p,o⟩ y;simp only at m p;subst m;refine aE (fun c=>?_) fun g=>?_
  ·have c:j<vs.length:=by have:(j:Int)<(s.len:Int):=c;omega
   obtain⟨a,v,_,f⟩:=(q.upd o fun _ h=>h.elim).at (ag c)
   have n:=((z.upd o).at c (e▸c));have d:=Dc ls (e▸c);have k:=congrArg fV d;rw[ad]at k;have B:=IA ls (j+1);refine Join.plain ⟨by simp only;omega,a,v,_,f 0 _ rfl,_,n.srow,?_⟩;refine AppP.own (ys:=ls[j]) p n.len rfl (tV _) rfl (by omega) (by omega) o.size fun s2 Z w x=>?_
   simp only;rw[ec c (by omega)];exact y (j+1) _ _ ⟨rfl,c,d▸w,o.trans x fun b J=>.inr J⟩ (by omega)
  ·have G:j=vs.length:=by have:¬(j:Int)<(s.len:Int):=g;omega
   rw[bC (by omega)]at p;exact P _ _ p o
def D0(l:List Pr)(p:Pr):List Pr:=l.take (pos l p.1)++p::l.drop (if dQ l p.1 then pos l p.1+1 else pos l p.1)
theorem GV{l:List Pr}(g:di l){k:ByteArray}(b:dQ l k=true):∃h:pos l k<l.length,l[pos l k].1=k:=by
 unfold dQ at b;obtain⟨p,d,e⟩:=bZ.1 b;have e:=of_decide_eq_true e;obtain⟨q,c,rfl⟩:=List.mem_iff_getElem.1 d;have:pos l k=q:=KW (by omega) (fun j f a=>by rw[←e];exact dd.1 g j q f c a) fun h=>by rw[←e];exact cP _
 subst this;exact⟨c,e⟩
theorem KI{h:ac}{s:SliceV}{l:List Pr}(d:Sl eA 2 No h s l){i j m:Nat}(e:i≤j)(a:j≤l.length)(b:j≤m)(c:Nat):Sl eA 2 No h ⟨aN s.a i m 2,j-i,c⟩ ((l.drop i).take (j-i)):=Sl.sub d e a b
theorem G3{h:ac}{s:SliceV}{l:List Pr}(o:Sl eA 2 No h s l)(hc:s.len≤s.cap)(u:di l)(I:l.length≤1000000000)(p:Pr)
  {K:SliceV→ac→Prop}(L:∀s' h',OwnS eA 2 af (fun b=>h.size≤b) h' s' (D0 l p)→Upd No h h'→K s' h'):HC PG vv [.slice s.a s.len s.cap,.agg #[.string p.1,.string p.2]] [.c .slice] K h:=by
 refine HP s p ?_;unfold BJ al kB sF Nf;have g:=o.len;have k1:=Upd.hnew No h [.string p.1,.string p.2] af;have b1:=bN h [.string p.1,.string p.2] af;refine aX ?_;simp only[cr h];generalize hnew h [.string p.1,.string p.2] af=h1 at k1 b1;refine⟨p.1,by rw[bO,aP b1];rfl,IB (o.upd k1 fun _ h=>h.elim) u I p.1 fun N c=>?_⟩
 have A:=NT l p.1;have a:=k1.tr c;refine⟨by simp only;omega,?_⟩;let q:=if dQ l p.1 then pos l p.1+1 else pos l p.1
 have J:q≤l.length:=by
  show(if dQ l p.1 then pos l p.1+1 else pos l p.1)≤l.length
  split
  ·rename_i ht;obtain⟨h,_⟩:=GV u ht;omega
  ·exact A
 refine Join.intro (fun t h'=>h'=N∧t=⟨aN s.a q s.cap 2,s.len-q,s.cap-q⟩) (fun R D=>?_) ?_
 ·refine CondP.intro (fun e=>?_) fun e=>D _ _ ⟨rfl,?_⟩
  ·have e:dQ l p.1=true:=e
   obtain⟨F,_⟩:=GV u e;have G:IntKind.wrap .i64 ((pos l p.1:Int)+1)=((pos l p.1+1:Nat):Int):=by rw[gi (by omega)];omega
   simp only;rw[G];refine⟨by omega,D _ _ ⟨rfl,?_⟩⟩;have:q=pos l p.1+1:=by show(if dQ l p.1 then _ else _)=_;rw[if_pos e]
   rw[this];rfl
  ·have e:dQ l p.1=false:=e
   have:q=pos l p.1:=by show(if dQ l p.1 then _ else _)=_;rw[if_neg (by rw[e];decide)]
   rw[this];rfl
 ·rintro t h' ⟨rfl,rfl⟩
  have b2:=c.get0 b1;refine⟨by simp only;omega,p.1,by rw[bO,aP b2];rfl,p.2,by rw[bO,aP b2];rfl,?_⟩
  have y:=Upd.hnew No h' [.string p.1,.string p.2] af;have b3:=bN h' [.string p.1,.string p.2] af;refine aX ?_;simp only[cr h'];generalize hnew h' [.string p.1,.string p.2] af=h3 at y b3;refine aX ?_;have d:=(o.upd a fun _ h=>h.elim).upd y fun _ h=>h.elim
  have k:=Upd.hnew No h3 [.slice (aN s.a 0 s.cap 2) ((pos l p.1:Int).toNat-0) (s.cap-0),.slice (some ⟨h'.size,0,none⟩) 1 1,.slice (aN s.a q s.cap 2) (s.len-q) (s.cap-q)] cE;have P:=bN h3 [.slice (aN s.a 0 s.cap 2) ((pos l p.1:Int).toNat-0) (s.cap-0),.slice (some ⟨h'.size,0,none⟩) 1 1,.slice (aN s.a q s.cap 2) (s.len-q) (s.cap-q)] cE;have C:=KI d (i:=0) (j:=pos l p.1) (m:=s.cap) (cj _) A (by omega) (s.cap-0)
  have O:Sl eA 2 No h3 ⟨some ⟨h'.size,0,none⟩,1,1⟩ [p]:=⟨rfl,ia,fun _=>⟨_,rfl,fun h=>h.elim,qe b3 fun i v w=>by simpa using w⟩⟩
  have n:=KI d (i:=q) (j:=l.length) (m:=s.cap) J (aq _) (by omega) (s.cap-q);rw[←g]at n;rw[dA]at C;rw[bC (by rw[aM];omega)]at n;have E:D0 l p= [l.take (pos l p.1-0),[p],l.drop q].flatten:=by simp[D0,q]
  refine JC (s:=⟨some (bc h3),3,3⟩) (vs:= [⟨aN s.a 0 s.cap 2,(pos l p.1:Int).toNat-0,s.cap-0⟩,⟨some ⟨h'.size,0,none⟩,1,1⟩,⟨aN s.a q s.cap 2,s.len-q,s.cap-q⟩]) (ls:= [l.take (pos l p.1-0),[p],l.drop q])
   ⟨rfl,fun x=>⟨rfl,Nat.one_pos⟩,fun _=>⟨_,rfl,fun h=>h.elim,qe P fun i v w=>by simpa[slF]using w⟩⟩ ⟨C.upd k fun _ h=>h.elim,O.upd k fun _ h=>h.elim,n.upd k fun _ h=>h.elim,trivial⟩ ?_ (by simp) fun S Q f z=>?_
  ·simp only[jA,List.flatten_nil,ad,aK,aM,List.length_singleton,List.length_nil];omega
  ·rw[←E]at f
   have B:=((a.tr y).tr k);exact L _ _ (f.more fun b H=>Nat.le_trans B.size H) (B.tr z)
end Go.Proofs
