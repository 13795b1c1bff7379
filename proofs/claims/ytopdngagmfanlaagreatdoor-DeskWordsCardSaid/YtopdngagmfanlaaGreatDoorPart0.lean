/- A part of the proof that the named laws of this program answer true, whatever the input. -/
import Derived.Shelf.Lays
import Derived.Shelf.LaysM
import Derived.Test.YtopdngagmfanlaaGreatDoorTreeF0
import Derived.Test.YtopdngagmfanlaaGreatDoorTreeF1
import Derived.Test.YtopdngagmfanlaaGreatDoorTreeF2
import Derived.Test.YtopdngagmfanlaaGreatDoorLaw0
import Derived.Test.YtopdngagmfanlaaGreatDoorLift3
import Derived.Lib.Overlaps
import Derived.Sort.Walk0
set_option maxRecDepth 100000
open BitVec renaming ofInt→aj
open ByteArray renaming size_extract→nr
open Go.IntKind renaming wrap→ac,bits→af
open Go.Op renaming bytesLess→cA
open Int renaming fdiv→fa,toNat_natCast→aB
open List renaming flatMap_cons→be,take_length→bW,length_take→aP,length_drop→aK,flatMap_append→bV,drop_zero→eD,append_assoc→aF,take_append_of_le_length→eg,take_of_length_le→bq,length_append→ai,drop_left→gQ,take_left→iU,size_toArray→cp,drop_eq_getElem_cons→ec,length_eq_zero_iff→aY,drop_left'→bT,take_left'→ct,drop_drop→cE,drop_append_of_le_length→ep,getElem?_eq_getElem→aJ
open Nat renaming beq→ax,zero_add→aD,sub_self→p9,le_refl→az,lt_or_ge→bQ,min_eq_left→bB,sub_zero→dD,min→cZ,add_one_mul→fq,le_mul_of_pos_left→nn,min_eq_right→oc,zero_mul→tU
namespace Go.Proofs
open Go Go.Lift Go.Shelf
def F3:Ren:=⟨fun n=>bif ax n 129 then 130 else bif ax n 137 then 37 else bif ax n 138 then 113 else bif ax n 143 then 114 else bif ax n 195 then 136 else bif ax n 217 then 70 else bif ax n 218 then 137 else bif ax n 219 then 138 else bif ax n 224 then 192 else bif ax n 225 then 191 else bif ax n 240 then 74 else bif ax n 266 then 96 else bif ax n 267 then 193 else bif ax n 276 then 107 else bif ax n 283 then 103 else bif ax n 284 then 104 else bif ax n 285 then 105 else bif ax n 314 then 269 else bif ax n 317 then 129 else bif ax n 318 then 131 else 0,
 fun n=>bif ax n 0 then 0 else bif ax n 3 then 3 else bif ax n 4 then 4 else bif ax n 5 then 5 else bif ax n 9 then 9 else bif ax n 20 then 20 else bif ax n 37 then 95 else bif ax n 46 then 32 else bif ax n 51 then 23 else bif ax n 53 then 52 else bif ax n 70 then 103 else bif ax n 72 then 105 else bif ax n 146 then 335 else bif ax n 164 then 168 else bif ax n 212 then 202 else 0,
 fun n=>bif ax n 1 then 0 else bif ax n 17 then 3 else 0⟩
theorem wF:Lays.n240 PG F3:=by constructor<;>first|kernel_rfl|(intro w;kernel_rfl)
theorem Ej:Lays.n138 PG F3:=by constructor<;>first|kernel_rfl|(intro w;kernel_rfl)
theorem Ei:Lays.n143 PG F3:=by constructor<;>first|kernel_rfl|(intro w;kernel_rfl)
theorem Ek:Lays.n137 PG F3:=by constructor<;>first|kernel_rfl|(intro w;kernel_rfl)
theorem Eg:Lays.n284 PG F3:=by constructor<;>first|kernel_rfl|(intro w;kernel_rfl)
theorem CZ:LaysM.n284 PG F3:=by constructor<;>first|exact Eg|kernel_rfl|(intro w;kernel_rfl)
theorem Ef:Lays.n285 PG F3:=by constructor<;>first|kernel_rfl|(intro w;kernel_rfl)
theorem Eh:Lays.n283 PG F3:=by constructor<;>first|kernel_rfl|(intro w;kernel_rfl)
end Go.Proofs
namespace Go.Proofs
open Go.Lift
theorem Js(n:Int):0≤ac .u64 n∧ac .u64 n<18446744073709551616:=by rw[IntKind.wrap_u64];omega
theorem j2{x:Int}(h: -4611686018427387904≤x∧x≤4611686018427387904):ac .i64 x=x:=Go.IntWalk.i64_in _ (by omega)
theorem eu{i n:Nat}(h:i<n)(a:n≤4611686018427387904):ac .i64 ((i:Int)+1)=((i+1:Nat):Int):=by rw[j2 (by omega)];omega
theorem tO{h:ad}{b i:Nat}{c:Array Value}{t:TypeId}{v:Value}{k:ad→Prop}(a:h[b]? =some (.cells c t (0,0)))
  (d:∀h',h'[b]? =some (.cells (c.setIfInBounds i v) t (0,0))→Upd (· =b) h h'→k h'):At (hset h ⟨b,i,none⟩ v) k:=by
 refine d _ ?_ (Upd.hset _ _ rfl);rw[C6 a,hT a]
def Pw(a b:Int):Int:=ac .u64 (aj (af .u64) a&&&aj (af .u64) b).toNat
def ff(a b:Int):Int:=ac .u64 (aj (af .u64) a^^^aj (af .u64) b).toNat
def Ot(a b:Int):Int:=ac .u64 (aj (af .u64) a|||aj (af .u64) b).toNat
def JF(x n:Int):Int:=
 Ot (ac .u64 (x*2^(min (Pw (ac .u64 n) 63).toNat (af .u64)))) (fa x (2^(min (ac .u64 (64-Pw (ac .u64 n) 63)).toNat (af .u64))))
theorem Ae{x n:Int}{h:ad}{K:Int→ad→Prop}(a:K (JF x n) h):HC PG cI [.int .u64 x,.int .i64 n] [.c (.int .u64)] K h:=by
 refine sy x n ?_;unfold lN;exact⟨(Js _).1,(Js _).1,a⟩
abbrev Q4:=Int×Int×Int×Int
def q4(s:Q4):Array Value:= #[.int .u64 s.1,.int .u64 s.2.1,.int .u64 s.2.2.1,.int .u64 s.2.2.2]
def QK(a b:Int):Int:=ac .u64 (a+b)
def PK(s:Q4):Q4:=(QK s.1 s.2.1,s.2)
def P6(s:Q4):Q4:=(s.1,ff (JF s.2.1 13) s.1,s.2.2)
def QS(s:Q4):Q4:=(JF s.1 32,s.2)
def Rm(s:Q4):Q4:=(s.1,s.2.1,QK s.2.2.1 s.2.2.2,s.2.2.2)
def RU(s:Q4):Q4:=(s.1,s.2.1,s.2.2.1,ff (JF s.2.2.2 16) s.2.2.1)
def Sm(s:Q4):Q4:=(QK s.1 s.2.2.2,s.2)
def S2(s:Q4):Q4:=(s.1,s.2.1,s.2.2.1,ff (JF s.2.2.2 21) s.1)
def Tl(s:Q4):Q4:=(s.1,s.2.1,QK s.2.2.1 s.2.1,s.2.2.2)
def s09(s:Q4):Q4:=(s.1,ff (JF s.2.1 17) s.2.2.1,s.2.2)
def s10(s:Q4):Q4:=(s.1,s.2.1,JF s.2.2.1 32,s.2.2.2)
def JE(s:Q4):Q4:=s10 (s09 (Tl (S2 (Sm (RU (Rm (QS (P6 (PK s)))))))))
def mI:Nat→Q4→Q4
 |0,s=>s
 |n+1,s=>mI n (JE s)
theorem nL{h:ad}{b i:Nat}{t:TypeId}{s s':Q4}{v:Value}{k:ad→Prop}(c:h[b]? =some (.cells (q4 s) t (0,0))) (e:(q4 s).setIfInBounds i v=q4 s')
  (d:∀h',h'[b]? =some (.cells (q4 s') t (0,0))→Upd (· =b) h h'→k h'):At (hset h ⟨b,i,none⟩ v) k:=
 tO c fun h' a f=>d h' (e▸a) f
theorem ES{n:Nat}(Z:n≤100){h:ad}{b:Nat}{t:TypeId}{s:Q4}(A:h[b]? =some (.cells (q4 s) t (0,0))) {K:Unit→ad→Prop}
  (N:∀h',h'[b]? =some (.cells (q4 (mI n s)) t (0,0))→Upd (· =b) h h'→K () h'):HC PG gK [.pointer (some ⟨b,0,none⟩),.int .i64 n] [] K h:=by
 refine xG _ _ ?_;unfold qJ bA dU xX cg;refine LoopP.ghost (fun(g:Nat×Q4) (O:Int) h'=>O=(g.1:Int)∧g.1≤n∧h'[b]? =some (.cells (q4 g.2) t (0,0))∧Upd (· =b) h h'∧mI (n-g.1) g.2=mI n s) (fun g=>n-g.1) (0,s) ⟨rfl,Nat.zero_le _,A,Upd.refl _ _,rfl⟩ ?_
 rintro I ⟨i,d⟩ O h' ⟨P,hi,a,Q,x⟩ T;simp only at P hi a x;subst P;refine aG (fun u=>?_) fun R=>?_
 ·have u:i<n:=by omega
  have c:∀{h:ad} {s:Q4} {i:Nat},h[b]? =some (.cells (q4 s) t (0,0))→aE h ⟨b,0+i,none⟩=(q4 s)[i]?:=fun A=>by rw[aD];exact aI A
  have w:∀{h:ad} {s:Q4} {i:Nat},h[b]? =some (.cells (q4 s) t (0,0))→i<4→Wr h ⟨b,0+i,none⟩:=fun A hi=>by rw[aD];exact gI A hi
  simp only[show((0:Int)).toNat*1=0 from rfl,show((1:Int)).toNat*1=1 from rfl,show((2:Int)).toNat*1=2 from rfl,show((3:Int)).toNat*1=3 from rfl]
  refine⟨_,rfl,by decide,_,c (i:=0) a,_,rfl,by decide,_,c (i:=1) a,_,rfl,by decide,w (i:=0) a (by decide),nL (s':=PK d) a rfl fun h2 m G=>?_⟩
  refine⟨_,rfl,by decide,_,c (i:=1) m,_,rfl,by decide,_,c (i:=0) m,_,rfl,Ae ⟨c (i:=0) m,by decide,w (i:=1) m (by decide),nL (s':=P6 (PK d)) m rfl fun V v J=>?_⟩⟩
  refine⟨_,rfl,by decide,_,c (i:=0) v,_,rfl,Ae ⟨by decide,w (i:=0) v (by decide),nL (s':=QS (P6 (PK d))) v rfl fun h4 q H=>?_⟩⟩
  refine⟨_,rfl,by decide,_,c (i:=2) q,_,rfl,by decide,_,c (i:=3) q,_,rfl,by decide,w (i:=2) q (by decide),nL (s':=Rm (QS (P6 (PK d)))) q rfl fun Y f D=>?_⟩
  refine⟨_,rfl,by decide,_,c (i:=3) f,_,rfl,by decide,_,c (i:=2) f,_,rfl,Ae ⟨c (i:=2) f,by decide,w (i:=3) f (by decide),nL (s':=RU (Rm (QS (P6 (PK d))))) f rfl fun W p C=>?_⟩⟩
  refine⟨_,rfl,by decide,_,c (i:=0) p,_,rfl,by decide,_,c (i:=3) p,_,rfl,by decide,w (i:=0) p (by decide),nL (s':=Sm (RU (Rm (QS (P6 (PK d)))))) p rfl fun h7 e F=>?_⟩
  refine⟨_,rfl,by decide,_,c (i:=3) e,_,rfl,by decide,_,c (i:=0) e,_,rfl,Ae ⟨c (i:=0) e,by decide,w (i:=3) e (by decide),nL (s':=S2 (Sm (RU (Rm (QS (P6 (PK d))))))) e rfl fun X o L=>?_⟩⟩
  refine⟨_,rfl,by decide,_,c (i:=2) o,_,rfl,by decide,_,c (i:=1) o,_,rfl,by decide,w (i:=2) o (by decide),nL (s':=Tl (S2 (Sm (RU (Rm (QS (P6 (PK d)))))))) o rfl fun h9 k E=>?_⟩
  refine⟨_,rfl,by decide,_,c (i:=1) k,_,rfl,by decide,_,c (i:=2) k,_,rfl,Ae ⟨c (i:=2) k,by decide,w (i:=1) k (by decide),nL (s':=s09 (Tl (S2 (Sm (RU (Rm (QS (P6 (PK d))))))))) k rfl fun S j y=>?_⟩⟩
  refine⟨_,rfl,by decide,_,c (i:=2) j,_,rfl,Ae ⟨by decide,w (i:=2) j (by decide),nL (s':=JE d) j rfl fun U z B=>?_⟩⟩
  rw[eu u (by omega)];refine T (i+1,JE d) _ _ ⟨rfl,u,z,Q.tr (G.tr (J.tr (H.tr (D.tr (C.tr (F.tr (L.tr (E.tr (y.tr B))))))))),?_⟩ (by simp only;omega);simp only;rw[←x,show n-i=(n-(i+1))+1 by omega];rfl
 ·obtain rfl:i=n:=by omega
  rw[p9]at x;have x:d=mI i s:=x;rw[←x]at N;exact N _ a Q
end Go.Proofs
namespace Go.Proofs
open Go.Lift
def QE(s:ByteArray)(i:Nat):Int:=match s[i]? with|some b=>(b.toNat:Int)|none=>0
def S1(b:Int)(n:Int):Int:=ac .u64 ((ac .u64 b)*2^(min n.toNat (af .u64)))
def wj(s:ByteArray):Nat→Int→Int
 |0,t=>t
 |k+1,t=>wj s k (Ot t (if k=0 then ac .u64 (QE s 0)else S1 (QE s k) ((8*k:Nat):Int)))
def AX(s:ByteArray):Int:=wj s s.size 0
theorem oW{s:ByteArray}{i:Nat}(h:i<s.size):∃b,s[i]? =some b∧QE s i=(b.toNat:Int):=⟨s[i],getElem?_pos s i h,by simp[QE,getElem?_pos s i h]⟩
theorem Lh{s:ByteArray}(G:s.size≤8){h:ad}{K:Int→ad→Prop}(g:K (AX s) h):HC PG tH [.string s] [.c (.int .u64)] K h:=by
 refine KY s ?_;unfold DQ;refine Join.intro (fun t h'=>h'=h∧1≤s.size∧wj s 1 t=wj s s.size 0) (fun J m=>?_) ?_
 ·refine Join.intro (fun t h'=>h'=h∧2≤s.size∧wj s 2 t=wj s s.size 0) (fun I j=>?_) ?_
  ·refine Join.intro (fun t h'=>h'=h∧3≤s.size∧wj s 3 t=wj s s.size 0) (fun Q o=>?_) ?_
   ·refine Join.intro (fun t h'=>h'=h∧4≤s.size∧wj s 4 t=wj s s.size 0) (fun D q=>?_) ?_
    ·refine Join.intro (fun t h'=>h'=h∧5≤s.size∧wj s 5 t=wj s s.size 0) (fun P n=>?_) ?_
     ·refine Join.intro (fun t h'=>h'=h∧6≤s.size∧wj s 6 t=wj s s.size 0) (fun C k=>?_) ?_
      ·refine Join.intro (fun t h'=>h'=h∧7≤s.size∧wj s 7 t=wj s s.size 0) (fun L p=>?_) ?_
       ·refine CondP.intro (fun e=>?_) fun z=>?_
        ·have e:s.size=8:=by have:=of_decide_eq_true (by simpa using e:decide ((s.size:Int)=8)=true);omega
         obtain⟨b,a,c⟩:=oW (s:=s) (i:=7) (by omega);refine⟨b,by decide,a,by decide,p _ _ ⟨rfl,by omega,?_⟩⟩
         rw[e,←c];rfl
        refine CondP.intro (fun e=>?_) fun y=>?_
        ·have e:s.size=7:=by have:=of_decide_eq_true (by simpa using e:decide ((s.size:Int)=7)=true);omega
         exact p _ _ ⟨rfl,by omega,by rw[e]⟩
        refine CondP.intro (fun e=>?_) fun u=>?_
        ·have e:s.size=6:=by have:=of_decide_eq_true (by simpa using e:decide ((s.size:Int)=6)=true);omega
         exact k _ _ ⟨rfl,by omega,by rw[e]⟩
        refine CondP.intro (fun e=>?_) fun w=>?_
        ·have e:s.size=5:=by have:=of_decide_eq_true (by simpa using e:decide ((s.size:Int)=5)=true);omega
         exact n _ _ ⟨rfl,by omega,by rw[e]⟩
        refine CondP.intro (fun e=>?_) fun x=>?_
        ·have e:s.size=4:=by have:=of_decide_eq_true (by simpa using e:decide ((s.size:Int)=4)=true);omega
         exact q _ _ ⟨rfl,by omega,by rw[e]⟩
        refine CondP.intro (fun e=>?_) fun v=>?_
        ·have e:s.size=3:=by have:=of_decide_eq_true (by simpa using e:decide ((s.size:Int)=3)=true);omega
         exact o _ _ ⟨rfl,by omega,by rw[e]⟩
        refine CondP.intro (fun e=>?_) fun e2=>?_
        ·have e:s.size=2:=by have:=of_decide_eq_true (by simpa using e:decide ((s.size:Int)=2)=true);omega
         exact j _ _ ⟨rfl,by omega,by rw[e]⟩
        refine CondP.intro (fun e=>?_) fun e1=>?_
        ·have e:s.size=1:=by have:=of_decide_eq_true (by simpa using e:decide ((s.size:Int)=1)=true);omega
         exact m _ _ ⟨rfl,by omega,by rw[e]⟩
        have e:s.size=0:=by
         have B:¬(s.size:Int)=1:=by simpa using e1
         have O:¬(s.size:Int)=2:=by simpa using e2
         have F:¬(s.size:Int)=3:=by simpa using v
         have q4:¬(s.size:Int)=4:=by simpa using x
         have A:¬(s.size:Int)=5:=by simpa using w
         have E:¬(s.size:Int)=6:=by simpa using u
         have N:¬(s.size:Int)=7:=by simpa using y
         have H:¬(s.size:Int)=8:=by simpa using z
         omega
        unfold AX at g;rw[e]at g;exact g
       ·rintro t _ ⟨rfl,f,d⟩
        obtain⟨b,a,c⟩:=oW (s:=s) (i:=6) (by omega);refine⟨b,by decide,a,by decide,k _ _ ⟨rfl,by omega,?_⟩⟩
        rw[←d,←c];rfl
      ·rintro t _ ⟨rfl,f,d⟩
       obtain⟨b,a,c⟩:=oW (s:=s) (i:=5) (by omega);refine⟨b,by decide,a,by decide,n _ _ ⟨rfl,by omega,?_⟩⟩
       rw[←d,←c];rfl
     ·rintro t _ ⟨rfl,f,d⟩
      obtain⟨b,a,c⟩:=oW (s:=s) (i:=4) (by omega);refine⟨b,by decide,a,by decide,q _ _ ⟨rfl,by omega,?_⟩⟩
      rw[←d,←c];rfl
    ·rintro t _ ⟨rfl,f,d⟩
     obtain⟨b,a,c⟩:=oW (s:=s) (i:=3) (by omega);refine⟨b,by decide,a,by decide,o _ _ ⟨rfl,by omega,?_⟩⟩
     rw[←d,←c];rfl
   ·rintro t _ ⟨rfl,f,d⟩
    obtain⟨b,a,c⟩:=oW (s:=s) (i:=2) (by omega);refine⟨b,by decide,a,by decide,j _ _ ⟨rfl,by omega,?_⟩⟩
    rw[←d,←c];rfl
  ·rintro t _ ⟨rfl,f,d⟩
   obtain⟨b,a,c⟩:=oW (s:=s) (i:=1) (by omega);refine⟨b,by decide,a,by decide,m _ _ ⟨rfl,by omega,?_⟩⟩
   rw[←d,←c];rfl
 ·rintro t _ ⟨rfl,f,d⟩
  obtain⟨b,a,c⟩:=oW (s:=s) (i:=0) (by omega);refine⟨b,by decide,a,?_⟩
  unfold AX at g;rw[←d]at g;rw[←c];exact g
end Go.Proofs
namespace Go.Proofs
open Go.Lift
def CA(m:Int)(s:Q4):Q4:=
 let r:=mI 2 (s.1,s.2.1,s.2.2.1,ff s.2.2.2 m)
 (ff r.1 m,r.2)
theorem Ln{m:Int}{h:ad}{b:Nat}{t:TypeId}{s:Q4}(d:h[b]? =some (.cells (q4 s) t (0,0))) {K:Unit→ad→Prop}
  (e:∀h',h'[b]? =some (.cells (q4 (CA m s)) t (0,0))→Upd (· =b) h h'→K () h'):HC PG kN [.pointer (some ⟨b,0,none⟩),.int .u64 m] [] K h:=by
 refine AK _ _ ?_;unfold sZ bA dU cg mE;have c:∀{h:ad} {s:Q4} {i:Nat},h[b]? =some (.cells (q4 s) t (0,0))→aE h ⟨b,0+i,none⟩=(q4 s)[i]?:=fun d=>by rw[aD];exact aI d
 have w:∀{h:ad} {s:Q4} {i:Nat},h[b]? =some (.cells (q4 s) t (0,0))→i<4→Wr h ⟨b,0+i,none⟩:=fun d hi=>by rw[aD];exact gI d hi
 simp only[show((0:Int)).toNat*1=0 from rfl,show((3:Int)).toNat*1=3 from rfl]
 refine⟨_,rfl,by decide,_,c (i:=3) d,_,rfl,by decide,w (i:=3) d (by decide),nL (s':=(s.1,s.2.1,s.2.2.1,ff s.2.2.2 m)) d rfl fun v f g=>?_⟩
 refine ES (n:=2) (by omega) f fun q a k=>?_
 have p:CA m s=(ff (mI 2 (s.1,s.2.1,s.2.2.1,ff s.2.2.2 m)).1 m,(mI 2 (s.1,s.2.1,s.2.2.1,ff s.2.2.2 m)).2):=by unfold CA;rfl
 rw[p]at e;generalize mI 2 (s.1,s.2.1,s.2.2.1,ff s.2.2.2 m)=r at a e;refine⟨_,rfl,by decide,_,c (i:=0) a,_,rfl,by decide,w (i:=0) a (by decide),nL (s':=(ff r.1 m,r.2)) a rfl fun u o j=>?_⟩
 exact e _ o (g.tr (k.tr j))
def CD:Nat→ByteArray→Q4→ByteArray×Q4
 |0,s,q=>(s,q)
 |n+1,s,q=>if 8≤s.size then CD n (s.extract 8 s.size) (CA (AX (s.extract 0 8)) q)else(s,q)
def SP(r:Q4):Int:=ff (ff (ff r.1 r.2.1) r.2.2.1) r.2.2.2
def SO(q:Q4):Int:=SP (mI 4 (q.1,q.2.1,ff q.2.2.1 255,q.2.2.2))
def Tj(n:Nat)(g:ByteArray×Q4):Int:=SO (CA (Ot (AX g.1) (S1 (n:Int) 56)) g.2)
def P1(k0 k1:Int)(s:ByteArray):Int:=
 Tj s.size (CD s.size s (ff k0 8317987319222330741,ff k1 7237128888997146477,ff k0 7816392313619706465,ff k1 8387220255154660723))
theorem Qy{a:ad}{b:Nat}{t:TypeId}{r:Q4}(g:a[b]? =some (.cells (q4 r) t (0,0))) {K:Int→Prop} (f:K (SP r)):
  (((0:Int)≤(0:Int)∧(0:Int)<((4:Nat):Int))∧
   ∃v30:Int,aE a (adr ⟨b,0,none⟩ ((0:Int).toNat*1))=some (.int .u64 v30)∧
   (((0:Int)≤(1:Int)∧(1:Int)<((4:Nat):Int))∧
    ∃v31:Int,aE a (adr ⟨b,0,none⟩ ((1:Int).toNat*1))=some (.int .u64 v31)∧
    Bd (ac .u64 (aj (af .u64) v30^^^aj (af .u64) v31).toNat:Int) (fun n32=>
     (((0:Int)≤(2:Int)∧(2:Int)<((4:Nat):Int))∧
      ∃v33:Int,aE a (adr ⟨b,0,none⟩ ((2:Int).toNat*1))=some (.int .u64 v33)∧
      Bd (ac .u64 (aj (af .u64) n32^^^aj (af .u64) v33).toNat:Int) (fun e=>
       (((0:Int)≤(3:Int)∧(3:Int)<((4:Nat):Int))∧
        ∃v35:Int,aE a (adr ⟨b,0,none⟩ ((3:Int).toNat*1))=some (.int .u64 v35)∧
        Bd (ac .u64 (aj (af .u64) e^^^aj (af .u64) v35).toNat:Int) (fun d=>
         K d))))))):=by
 have c:∀{i:Nat},aE a ⟨b,0+i,none⟩=(q4 r)[i]?:=by intro i;rw[aD];exact aI g
 exact⟨by decide,_,c (i:=0),by decide,_,c (i:=1),by decide,_,c (i:=2),by decide,_,c (i:=3),f⟩
theorem Qx{a:ad}{b:Nat}{t:TypeId}{q:Q4}(d:a[b]? =some (.cells (q4 q) t (0,0))) {K:Unit→ad→Prop}
  (o:∀h',h'[b]? =some (.cells (q4 (mI 4 (q.1,q.2.1,ff q.2.2.1 255,q.2.2.2))) t (0,0))→Upd (· =b) a h'→K () h'):
  (((0:Int)≤(2:Int)∧(2:Int)<((4:Nat):Int))∧
   ∃v25:Int,aE a (adr ⟨b,0,none⟩ ((2:Int).toNat*1))=some (.int .u64 v25)∧
   Bd (ac .u64 (aj (af .u64) v25^^^aj (af .u64) 255).toNat:Int) (fun e=>
    (((0:Int)≤(2:Int)∧(2:Int)<((4:Nat):Int))∧
     (Wr a (adr ⟨b,0,none⟩ ((2:Int).toNat*1))∧
      At (hset a (adr ⟨b,0,none⟩ ((2:Int).toNat*1)) (.int .u64 e)) (fun m=>
       HC PG gK [.pointer (some ⟨b,0,none⟩),.int .i64 4] [] K m))))):=by
 have c:∀{i:Nat},aE a ⟨b,0+i,none⟩=(q4 q)[i]?:=by intro i;rw[aD];exact aI d
 refine⟨by decide,_,c (i:=2),by decide,by rw[show((2:Int)).toNat*1=2 from rfl,bJ];exact gI d (by simp[q4]),?_⟩
 refine nL (s':=(q.1,q.2.1,ff q.2.2.1 255,q.2.2.2)) d rfl fun s j g=>?_
 exact ES (n:=4) (by omega) j fun p k f=>o p k (g.tr f)
theorem aU{h:ad}{k:ad→Prop}(a:k h):At h k:=a
theorem Rh{k0 k1:Int}{s:ByteArray}{h:ad}{K:Int→ad→Prop}(A:∀h',Upd No h h'→K (P1 k0 k1 s) h'):HC PG Aw [.agg #[.int .u64 k0,.int .u64 k1],.string s] [.c (.int .u64)] K h:=by
 refine Nc (k0,k1) s ?_;unfold FG bA dU nv cg uE ae mE So RV R0;have p:=Upd.hnew No h [.int .u64 k0,.int .u64 k1] sJ;have b1:=bh h [.int .u64 k0,.int .u64 k1] sJ;have G:=fe h [.int .u64 k0,.int .u64 k1] sJ;refine aU ?_;simp only[cG h];generalize hnew h [.int .u64 k0,.int .u64 k1] sJ=h1 at p b1 G;refine⟨k0,by rw[bJ,aI b1];rfl,k1,by rw[bJ,aI b1];rfl,k0,by rw[bJ,aI b1];rfl,k1,by rw[bJ,aI b1];rfl,?_⟩
 have E:=Upd.hnew No h1 [.int .u64 0,.int .u64 0,.int .u64 0,.int .u64 0] hP;have b2:=bh h1 [.int .u64 0,.int .u64 0,.int .u64 0,.int .u64 0] hP;simp only[cG h1];simp only[Bd];refine aU ?_;refine⟨.inr ⟨_,rfl,fun j J=>by rw[bJ];exact gI b2 (by simp at J⊢;omega)⟩,?_⟩
 refine aU ?_;rw[g6 _ _ 0 0 _ b2 (by simp)];have b3:=hT (o:=.cells (q4 (ff k0 8317987319222330741,ff k1 7237128888997146477,ff k0 7816392313619706465,ff k1 8387220255154660723)) hP (0,0)) b2;have D:Upd No h _:=p.tr (E.trans (M':=(· =h1.size)) (Upd.set (hnew h1 [.int .u64 0,.int .u64 0,.int .u64 0,.int .u64 0] hP) (.cells (q4 (ff k0 8317987319222330741,ff k1 7237128888997146477,ff k0 7816392313619706465,ff k1 8387220255154660723)) hP (0,0)) rfl) fun b a=>.inr (Nat.le_of_eq a.symm))
 refine LoopP.ghost (fun(g:Nat×Q4) (d:ByteArray) h'=>d.size≤g.1∧h'[h1.size]? =some (.cells (q4 g.2) hP (0,0))∧Upd No h h'∧CD g.1 d g.2=CD s.size s (ff k0 8317987319222330741,ff k1 7237128888997146477,ff k0 7816392313619706465,ff k1 8387220255154660723)) (fun g=>g.1) (s.size,_)
  ⟨az _,b3,D,rfl⟩ ?_
 rintro I ⟨n,q⟩ d h' ⟨H,a,C,u⟩ F;simp only at H a u;have f:∀b,b=h1.size→No b∨h.size≤b:=fun b a=>.inr (by omega)
 refine aG (fun t=>?_) fun x=>?_
 ·have t:8≤d.size:=by omega
  cases n with
  |zero=>omega
  |succ n=>
   refine⟨by omega,Lh (by rw[nr];show min 8 _-0≤8;omega) (Ln a fun L e k=>⟨by omega,?_⟩)⟩
   have N:((8:Int)).toNat=8:=rfl;rw[N]at e⊢;refine F (n,CA (AX (d.extract 0 8)) q) _ _ ⟨by simp only[nr];omega,e,C.trans k f,?_⟩ (by simp only;omega);rw[←u];simp only[CD,if_pos t]
 ·have x:d.size<8:=by omega
  have u:(d,q)=CD s.size s (ff k0 8317987319222330741,ff k1 7237128888997146477,ff k0 7816392313619706465,ff k1 8387220255154660723):=by
   rw[←u];cases n with
   |zero=>rfl
   |succ n=>simp only[CD,if_neg (show ¬8≤d.size by omega)]
  have c:∀{h:ad} {s:Q4} {i:Nat},h[h1.size]? =some (.cells (q4 s) hP (0,0))→aE h ⟨h1.size,0+i,none⟩=(q4 s)[i]?:=fun a=>by rw[aD];exact aI a
  have w:∀{h:ad} {s:Q4} {i:Nat},h[h1.size]? =some (.cells (q4 s) hP (0,0))→i<4→Wr h ⟨h1.size,0+i,none⟩:=fun a hi=>by rw[aD];exact gI a hi
  have v:P1 k0 k1 s=SO (CA (Ot (AX d) (S1 (s.size:Int) 56)) q):=by unfold P1;rw[←u];rfl
  rw[v]at A;refine Lh (by omega) ⟨by decide,Ln (m:=Ot (AX d) (S1 (s.size:Int) 56)) a fun L e k=>?_⟩
  refine Qx e fun B z y=>Qy (K:=fun n=>K n B) z ?_
  exact A B ((C.trans k f).trans y f)
structure Hs where
 k0:Int
 k1:Int
 mask:Int
def ib(h:Hs)(s:ByteArray):Int:=Pw (P1 h.k0 h.k1 s) h.mask
theorem yz{x:Hs}{s:ByteArray}{h:ad}{K:Int→ad→Prop}(c:∀h',Upd No h h'→K (ib x s) h'):HC PG eV [.agg #[.int .u64 x.k0,.int .u64 x.k1,.int .u64 x.mask],.string s] [.c (.int .u64)] K h:=by
 refine yU (x.k0,x.k1,x.mask) s ?_;unfold rB ae wc fZ Sc;have a:=Upd.hnew No h [.int .u64 x.k0,.int .u64 x.k1,.int .u64 x.mask] dC;have b1:=bh h [.int .u64 x.k0,.int .u64 x.k1,.int .u64 x.mask] dC;simp only[At,cG h];generalize hnew h [.int .u64 x.k0,.int .u64 x.k1,.int .u64 x.mask] dC=h1 at a b1;refine⟨x.k0,by rw[bJ,bJ,aI b1];rfl,x.k1,by rw[bJ,bJ,aI b1];rfl,x.mask,by rw[bJ,aI b1];rfl,?_⟩
 refine Rh fun d b=>⟨by rw[bJ,aI (b.get0 b1)];rfl,c _ (a.tr b)⟩
theorem Ie(x:Hs)(s:ByteArray):0≤ib x s∧ib x s<18446744073709551616:=Js _
end Go.Proofs
namespace Go.Proofs
open Go Go.Lift
abbrev mn(x:ByteArray×ByteArray):List Value:= [.string x.1,.string x.2]
theorem mM(x:ByteArray×ByteArray):(mn x).length=2∧0<2:=⟨rfl,by omega⟩
theorem vP:∀xs:List (ByteArray×ByteArray),bM (xs.flatMap mn)=true
 | []=>rfl
 |x::xs=>by rw[be];exact kI rfl (vP xs)
theorem Gg{h:ad}{a b o c f d e:Nat}{i cw:Array Value}{j tb:TypeId}(g:h[a]? =some (.cells i j (0,0))) (n:h[b]? =some (.cells cw tb (0,0))) (q:a≠b) (p:cw.size≠0) {K:Bool→ad→Prop} (m:K false h):
  HC PG gu [.slice (some ⟨a,0,none⟩) c f,.slice (some ⟨b,o,none⟩) d e] [.c .bool] K h:=by
 refine⟨fun w k=>.inr ⟨.bool false,w,?_,Tame.refl w,false,rfl,k▸m⟩⟩
 subst k;rw[p6];have:=Lib.run_overlaps_apart (P:=PG) w fR uF ak (by kernel_rfl) (bF PG ak) (oK (by kernel_rfl)) ⟨a,0,none⟩ ⟨b,o,none⟩ c f d e q j tb i.size cw.size
  (by simp[World.shape?,g]) (by simp[World.shape?,n]) p (by simp[World.frozen?,g]) (by simp[World.frozen?,g])
 rw[show([Value.slice (some ⟨a,0,none⟩) c f,Value.slice (some ⟨b,o,none⟩) d e]:List Value).toArray= #[.slice (some ⟨a,0,none⟩) c f,.slice (some ⟨b,o,none⟩) d e]from rfl,this]
 rfl
set_option maxRecDepth 4000 in
theorem Ko{M:Nat→Prop}{h:ad}{s:SliceV}{xs:List (ByteArray×ByteArray)}(T:OwnS mn 2 ak M h s xs){k:Nat}(Z:k≤xs.length)(hn:(xs.length+1)*32≤140737488355328){x:ByteArray×ByteArray}{m:Nat}(E:h[m]? =some (.cells (mn x).toArray ak (0,0)))
  (W:¬M m) (hM:∀b,h.size≤b→M b) {K:SliceV→ad→Prop} (hK:∀s' h',OwnS mn 2 ak M h' s' (xs.take k++x::xs.drop k)→Upd M h h'→K s' h'):
  HC PG cz [.slice s.a s.len s.cap,.int .i64 k,.slice (some ⟨m,0,none⟩) 1 1] [.c .slice] K h:=by
 refine kS s k ⟨some ⟨m,0,none⟩,1,1⟩ ?_;unfold gb jl;have t:=T.len;have hcap:=T.cap;have G:SRow h (some ⟨m,0,none⟩) (1*2) (mn x):=⟨rfl,.inr ⟨_,rfl,om E fun i v hi=>by simpa using hi⟩⟩
 refine⟨by omega,ag.2 ?_⟩;refine CondP.intro (fun e=>?_) fun e=>?_
 ·have e:k=xs.length:=by have:=of_decide_eq_true (by simpa using e:decide ((k:Int)=(s.len:Int))=true);omega
  subst e;refine⟨_,G,AppP.own (ys:= [x]) T rfl (by simp) rfl rfl (by omega) (by simp;omega) (hM _ (az _)) fun s' h' ho hu=>hK s' h' ?_ hu⟩
  rw[bW,List.drop_length];exact ho
 have hlt:k<xs.length:=by
  rcases bQ k xs.length with h|h
  ·exact h
  ·have:((k:Int)==(s.len:Int))=true:=by rw[beq_iff_eq];omega
   rw[this]at e;cases e
 rcases T.blk with h0|⟨b,g,ha,n,hc,hr⟩
 ·omega
 have j:((xs.take k).flatMap mn).length=k*2:=by rw[iq mM,aP,bB Z]
 have u:((xs.drop k).flatMap mn).length=(xs.length-k)*2:=by rw[iq mM,aK]
 have H:m≠b:=fun e=>W (e▸n)
 rw[vo (f:=mn) xs k]at hc;have a:(xs.take k++x::xs.drop k).flatMap mn=(xs.take k).flatMap mn++(mn x++(xs.drop k).flatMap mn):=by rw[bV,be]
 have d:=vP (xs.drop k);have c:(mn x).length=2:=rfl;have w:bM (mn x)=true:=rfl;generalize hAe:(xs.take k).flatMap mn=A at j hc a;generalize hBe:(xs.drop k).flatMap mn=B at u hc a d;generalize mn x=X at G c E a w;rw[ha];have w1:ac .i64 ((xs.length:Int)+((1:Nat):Int))=((xs.length+1:Nat):Int):=by rw[j2 (by omega)];omega
 have w2:ac .i64 ((k:Int)+((1:Nat):Int))=((k+1:Nat):Int):=by rw[j2 (by omega)];omega
 have w3:ac .i64 (((xs.length+1:Nat):Int)-(k:Int))=((xs.length+1-k:Nat):Int):=by rw[j2 (by omega)];omega
 simp only[w1,w2,w3,aB,t];refine aG (fun hgt=>?_) fun hle=>?_
 ·
  have N:s.cap=xs.length:=by omega
  refine Join.plain ⟨by omega,⟨by omega,by omega,by omega,by omega⟩,fun hin=>?_,fun I=>?_⟩
  ·omega
  ·refine⟨A,_,?_,rfl,by omega,Go.growslice_fits I (by omega),fun D z=>?_⟩
   ·rw[sub_zero]
    exact jM hc (by rw[j];omega) (by simp only[eD,dD];rw[aF,←j,eg (az _),bW])
   ·simp only[aB]at z⊢
    have U:=Upd.hnew No h (A++cL (xs.length+1-k) [.string (⟨#[]⟩:ByteArray),.string (⟨#[]⟩:ByteArray)]++cL (D-(k-0+(xs.length+1-k))) [.string (⟨#[]⟩:ByteArray),.string (⟨#[]⟩:ByteArray)]) ak;have bn:=bh h (A++cL (xs.length+1-k) [.string (⟨#[]⟩:ByteArray),.string (⟨#[]⟩:ByteArray)]++cL (D-(k-0+(xs.length+1-k))) [.string (⟨#[]⟩:ByteArray),.string (⟨#[]⟩:ByteArray)]) ak
    have C:(cL (xs.length+1-k) [.string (⟨#[]⟩:ByteArray),.string (⟨#[]⟩:ByteArray)]).length=(xs.length+1-k)*2:=j4 _ _;have hz2:(cL (D-(k-0+(xs.length+1-k))) [.string (⟨#[]⟩:ByteArray),.string (⟨#[]⟩:ByteArray)]).length=(D-(k-0+(xs.length+1-k)))*2:=j4 _ _;have o:k-0+(xs.length+1-k)=xs.length+1:=by omega
    rw[cG];have hsz:h.size≠m:=fun e=>by have:=bp E;omega
    have Q:h.size≠b:=fun e=>by have:=bp hc;omega
    have L:=U.get0 hc;have O:=U.get0 E;generalize hnew h _ ak=h9 at U bn L O;rw[o]at z hz2⊢;have V:cZ 1 (xs.length+1-k)=1:=bB (by omega);have m2:cZ (xs.length-k) (xs.length+1-(k+1))=xs.length-k:=bB (by omega);rw[V];have xr9:SRow h9 (some ⟨m,0,none⟩) (1*2) X:=jM O (by rw[c]) (by rw[eD,bq];rw[c];omega)
    refine⟨by omega,?_⟩;rw[g0 (by omega)];refine jx xr9 w bn (by simp only[ai,j,C];omega) fun h11 F p=>⟨by omega,?_⟩
    simp only[Bd];rw[g0 (by omega),g0 (by omega),m2];refine⟨by omega,?_⟩;have y:=p.get L (fun e=>Q e.symm)
    have br:SRow h11 (some ⟨b,0+k*2,none⟩) ((xs.length-k)*2) B:=jM y u (by
     rw[aD,aF,←j,gQ,←u,iU])
    refine jx br d F ?_ fun h16 J P=>?_
    ·simp only[ai,aP,aK,j,C,c];omega
    ·refine hK _ _ ⟨by simp;omega,mM,z,.inr ⟨h.size,cL (D-(xs.length+1)) [.string (⟨#[]⟩:ByteArray),.string (⟨#[]⟩:ByteArray)],rfl,hM _ (az _),?_,by rw[j4];rfl⟩⟩ ((U.wide.trans (M':=(· =h.size)) p fun b n=>.inl (n▸hM _ (az _))).trans (M':=(· =h.size)) P fun b n=>.inl (n▸hM _ (az _)))
     rw[J,a];have:=Gr (A:=A) (X:=X) (B:=B) (Z1:=cL (xs.length+1-k) [.string (⟨#[]⟩:ByteArray),.string (⟨#[]⟩:ByteArray)]) (Z2:=cL (D-(xs.length+1)) [.string (⟨#[]⟩:ByteArray),.string (⟨#[]⟩:ByteArray)]) (r:=(xs.length-k)*2) j c (by rw[C,←fq];congr 1;omega);rw[o,←this];simp only[aD,fq]
 ·have N:xs.length+1≤s.cap:=by omega
  refine⟨by omega,?_⟩;simp only[Bd,dD];rw[sub_zero,g0 (show s.cap≠k+1 by omega),g0 (show s.cap≠k by omega)]
  refine⟨by omega,?_⟩;have hrl:2≤g.length:=by rw[hr];exact nn _ (by omega)
  refine Gg E hc H (by rw[cp,ai];omega) ?_;refine ay.2 ⟨by omega,by omega,?_⟩
  have V:cZ 1 (xs.length+1-k)=1:=bB (by omega);have m2:cZ (xs.length+1-k) (xs.length+1-(k+1))=xs.length-k:=by
   rw[show xs.length+1-(k+1)=xs.length-k by omega];exact oc (by omega)
  rw[m2];have br:SRow h (some ⟨b,0+k*2,none⟩) ((xs.length-k)*2) B:=jM hc u (by
   rw[aD,aF,←j,gQ,←u,iU])
  refine jx br d hc (by simp only[ai,j,u];omega) fun h1 Y S=>⟨by omega,?_⟩
  rw[V];have xr1:SRow h1 (some ⟨m,0,none⟩) (1*2) X:=jM (S.get E H) (by rw[c]) (by rw[eD,bq];rw[c];omega);refine jx xr1 w Y (by simp only[ai,aP,aK,j,u];omega) fun h2 hb2 hu2=>?_
  refine hK _ _ ⟨by simp;omega,mM,N,.inr ⟨b,g.drop 2,rfl,n,?_,?_⟩⟩ ((S.mono fun _ e=>.inl (e▸n)).tr (hu2.mono fun _ e=>.inl (e▸n)))
  ·rw[hb2,a]
   have:=Kq (A:=A) (X:=X) (B:=B) (R:=g) (q:=2) (r:=(xs.length-k)*2) j u hrl;rw[←this];simp only[aD,fq]
  ·rw[aK,hr]
   simp only;rw[t];omega
abbrev q9(x:Option Addr):List Value:= [.pointer x]
theorem qk(x:Option Addr):(q9 x).length=1∧0<1:=⟨rfl,by omega⟩
theorem B8:∀xs:List (Option Addr),bM (xs.flatMap q9)=true
 | []=>rfl
 |x::xs=>by rw[be];exact kI rfl (B8 xs)
theorem Gh{h:ad}{a b o c f d e:Nat}{i cw:Array Value}{j tb:TypeId}(g:h[a]? =some (.cells i j (0,0))) (n:h[b]? =some (.cells cw tb (0,0))) (q:a≠b) (p:cw.size≠0) {K:Bool→ad→Prop} (m:K false h):
  HC PG f6 [.slice (some ⟨a,0,none⟩) c f,.slice (some ⟨b,o,none⟩) d e] [.c .bool] K h:=by
 refine⟨fun w k=>.inr ⟨.bool false,w,?_,Tame.refl w,false,rfl,k▸m⟩⟩
 subst k;rw[oX];have:=Lib.run_overlaps_apart (P:=PG) w pm uF bv (by kernel_rfl) (bF PG bv) (oK (by kernel_rfl)) ⟨a,0,none⟩ ⟨b,o,none⟩ c f d e q j tb i.size cw.size
  (by simp[World.shape?,g]) (by simp[World.shape?,n]) p (by simp[World.frozen?,g]) (by simp[World.frozen?,g])
 rw[show([Value.slice (some ⟨a,0,none⟩) c f,Value.slice (some ⟨b,o,none⟩) d e]:List Value).toArray= #[.slice (some ⟨a,0,none⟩) c f,.slice (some ⟨b,o,none⟩) d e]from rfl,this]
 rfl
set_option maxRecDepth 4000 in
theorem Kp{M:Nat→Prop}{h:ad}{s:SliceV}{xs:List (Option Addr)}(T:OwnS q9 1 bv M h s xs){k:Nat}(Z:k≤xs.length)(hn:(xs.length+1)*8≤140737488355328){x:Option Addr}{m:Nat}(E:h[m]? =some (.cells (q9 x).toArray bv (0,0)))
  (W:¬M m) (hM:∀b,h.size≤b→M b) {K:SliceV→ad→Prop} (hK:∀s' h',OwnS q9 1 bv M h' s' (xs.take k++x::xs.drop k)→Upd M h h'→K s' h'):
  HC PG ci [.slice s.a s.len s.cap,.int .i64 k,.slice (some ⟨m,0,none⟩) 1 1] [.c .slice] K h:=by
 refine jy s k ⟨some ⟨m,0,none⟩,1,1⟩ ?_;unfold fl;have t:=T.len;have hcap:=T.cap;have G:SRow h (some ⟨m,0,none⟩) (1*1) (q9 x):=⟨rfl,.inr ⟨_,rfl,om E fun i v hi=>by simpa using hi⟩⟩
 refine⟨by omega,ag.2 ?_⟩;refine CondP.intro (fun e=>?_) fun e=>?_
 ·have e:k=xs.length:=by have:=of_decide_eq_true (by simpa using e:decide ((k:Int)=(s.len:Int))=true);omega
  subst e;refine⟨_,G,AppP.own (ys:= [x]) T rfl (by simp) rfl rfl (by omega) (by simp;omega) (hM _ (az _)) fun s' h' ho hu=>hK s' h' ?_ hu⟩
  rw[bW,List.drop_length];exact ho
 have hlt:k<xs.length:=by
  rcases bQ k xs.length with h|h
  ·exact h
  ·have:((k:Int)==(s.len:Int))=true:=by rw[beq_iff_eq];omega
   rw[this]at e;cases e
 rcases T.blk with h0|⟨b,g,ha,n,hc,hr⟩
 ·omega
 have j:((xs.take k).flatMap q9).length=k*1:=by rw[iq qk,aP,bB Z]
 have u:((xs.drop k).flatMap q9).length=(xs.length-k)*1:=by rw[iq qk,aK]
 have H:m≠b:=fun e=>W (e▸n)
 rw[vo (f:=q9) xs k]at hc;have a:(xs.take k++x::xs.drop k).flatMap q9=(xs.take k).flatMap q9++(q9 x++(xs.drop k).flatMap q9):=by rw[bV,be]
 have d:=B8 (xs.drop k);have c:(q9 x).length=1:=rfl;have w:bM (q9 x)=true:=rfl;generalize hAe:(xs.take k).flatMap q9=A at j hc a;generalize hBe:(xs.drop k).flatMap q9=B at u hc a d;generalize q9 x=X at G c E a w;rw[ha];have w1:ac .i64 ((xs.length:Int)+((1:Nat):Int))=((xs.length+1:Nat):Int):=by rw[j2 (by omega)];omega
 have w2:ac .i64 ((k:Int)+((1:Nat):Int))=((k+1:Nat):Int):=by rw[j2 (by omega)];omega
 have w3:ac .i64 (((xs.length+1:Nat):Int)-(k:Int))=((xs.length+1-k:Nat):Int):=by rw[j2 (by omega)];omega
 simp only[w1,w2,w3,aB,t];refine aG (fun hgt=>?_) fun hle=>?_
 ·
  have N:s.cap=xs.length:=by omega
  refine Join.plain ⟨by omega,⟨by omega,by omega,by omega,by omega⟩,fun hin=>?_,fun I=>?_⟩
  ·omega
  ·refine⟨A,_,?_,rfl,by omega,Go.growslice_fits I (by omega),fun D z=>?_⟩
   ·rw[sub_zero]
    exact jM hc (by rw[j];omega) (by simp only[eD,dD];rw[aF,←j,eg (az _),bW])
   ·simp only[aB]at z⊢
    have U:=Upd.hnew No h (A++cL (xs.length+1-k) [.pointer none]++cL (D-(k-0+(xs.length+1-k))) [.pointer none]) bv;have bn:=bh h (A++cL (xs.length+1-k) [.pointer none]++cL (D-(k-0+(xs.length+1-k))) [.pointer none]) bv;have C:(cL (xs.length+1-k) [.pointer none]).length=(xs.length+1-k)*1:=j4 _ _;have hz2:(cL (D-(k-0+(xs.length+1-k))) [.pointer none]).length=(D-(k-0+(xs.length+1-k)))*1:=j4 _ _
    have o:k-0+(xs.length+1-k)=xs.length+1:=by omega
    rw[cG];have hsz:h.size≠m:=fun e=>by have:=bp E;omega
    have Q:h.size≠b:=fun e=>by have:=bp hc;omega
    have L:=U.get0 hc;have O:=U.get0 E;generalize hnew h _ bv=h9 at U bn L O;rw[o]at z hz2⊢;have V:cZ 1 (xs.length+1-k)=1:=bB (by omega);have m2:cZ (xs.length-k) (xs.length+1-(k+1))=xs.length-k:=bB (by omega);rw[V];have xr9:SRow h9 (some ⟨m,0,none⟩) (1*1) X:=jM O (by rw[c]) (by rw[eD,bq];rw[c];omega)
    refine⟨by omega,?_⟩;rw[g0 (by omega)];refine jx xr9 w bn (by simp only[ai,j,C];omega) fun h11 F p=>⟨by omega,?_⟩
    simp only[Bd];rw[g0 (by omega),g0 (by omega),m2];refine⟨by omega,?_⟩;have y:=p.get L (fun e=>Q e.symm)
    have br:SRow h11 (some ⟨b,0+k*1,none⟩) ((xs.length-k)*1) B:=jM y u (by
     rw[aD,aF,←j,gQ,←u,iU])
    refine jx br d F ?_ fun h16 J P=>?_
    ·simp only[ai,aP,aK,j,C,c];omega
    ·refine hK _ _ ⟨by simp;omega,qk,z,.inr ⟨h.size,cL (D-(xs.length+1)) [.pointer none],rfl,hM _ (az _),?_,by rw[j4];rfl⟩⟩ ((U.wide.trans (M':=(· =h.size)) p fun b n=>.inl (n▸hM _ (az _))).trans (M':=(· =h.size)) P fun b n=>.inl (n▸hM _ (az _)))
     rw[J,a];have:=Gr (A:=A) (X:=X) (B:=B) (Z1:=cL (xs.length+1-k) [.pointer none]) (Z2:=cL (D-(xs.length+1)) [.pointer none]) (r:=(xs.length-k)*1) j c (by rw[C,←fq];congr 1;omega);rw[o,←this];simp only[aD,fq]
 ·have N:xs.length+1≤s.cap:=by omega
  refine⟨by omega,?_⟩;simp only[Bd,dD];rw[sub_zero,g0 (show s.cap≠k+1 by omega),g0 (show s.cap≠k by omega)]
  refine⟨by omega,?_⟩;have hrl:1≤g.length:=by rw[hr];exact nn _ (by omega)
  refine Gh E hc H (by rw[cp,ai];omega) ?_;refine ay.2 ⟨by omega,by omega,?_⟩
  have V:cZ 1 (xs.length+1-k)=1:=bB (by omega);have m2:cZ (xs.length+1-k) (xs.length+1-(k+1))=xs.length-k:=by
   rw[show xs.length+1-(k+1)=xs.length-k by omega];exact oc (by omega)
  rw[m2];have br:SRow h (some ⟨b,0+k*1,none⟩) ((xs.length-k)*1) B:=jM hc u (by
   rw[aD,aF,←j,gQ,←u,iU])
  refine jx br d hc (by simp only[ai,j,u];omega) fun h1 Y S=>⟨by omega,?_⟩
  rw[V];have xr1:SRow h1 (some ⟨m,0,none⟩) (1*1) X:=jM (S.get E H) (by rw[c]) (by rw[eD,bq];rw[c];omega);refine jx xr1 w Y (by simp only[ai,aP,aK,j,u];omega) fun h2 hb2 hu2=>?_
  refine hK _ _ ⟨by simp;omega,qk,N,.inr ⟨b,g.drop 1,rfl,n,?_,?_⟩⟩ ((S.mono fun _ e=>.inl (e▸n)).tr (hu2.mono fun _ e=>.inl (e▸n)))
  ·rw[hb2,a]
   have:=Kq (A:=A) (X:=X) (B:=B) (R:=g) (q:=1) (r:=(xs.length-k)*1) j u hrl;rw[←this];simp only[aD,fq]
  ·rw[aK,hr]
   simp only;rw[t];omega
abbrev tl(x:Option Addr):List Value:= [.pointer x]
theorem mH(x:Option Addr):(tl x).length=1∧0<1:=⟨rfl,by omega⟩
theorem B7:∀xs:List (Option Addr),bM (xs.flatMap tl)=true
 | []=>rfl
 |x::xs=>by rw[be];exact kI rfl (B7 xs)
theorem Gf{h:ad}{a b o c f d e:Nat}{i cw:Array Value}{j tb:TypeId}(g:h[a]? =some (.cells i j (0,0))) (n:h[b]? =some (.cells cw tb (0,0))) (q:a≠b) (p:cw.size≠0) {K:Bool→ad→Prop} (m:K false h):
  HC PG fI [.slice (some ⟨a,0,none⟩) c f,.slice (some ⟨b,o,none⟩) d e] [.c .bool] K h:=by
 refine⟨fun w k=>.inr ⟨.bool false,w,?_,Tame.refl w,false,rfl,k▸m⟩⟩
 subst k;rw[nX];have:=Lib.run_overlaps_apart (P:=PG) w nJ uF bc (by kernel_rfl) (bF PG bc) (oK (by kernel_rfl)) ⟨a,0,none⟩ ⟨b,o,none⟩ c f d e q j tb i.size cw.size
  (by simp[World.shape?,g]) (by simp[World.shape?,n]) p (by simp[World.frozen?,g]) (by simp[World.frozen?,g])
 rw[show([Value.slice (some ⟨a,0,none⟩) c f,Value.slice (some ⟨b,o,none⟩) d e]:List Value).toArray= #[.slice (some ⟨a,0,none⟩) c f,.slice (some ⟨b,o,none⟩) d e]from rfl,this]
 rfl
set_option maxRecDepth 4000 in
theorem Km{M:Nat→Prop}{h:ad}{s:SliceV}{xs:List (Option Addr)}(T:OwnS tl 1 bc M h s xs){k:Nat}(Z:k≤xs.length)(hn:(xs.length+1)*8≤140737488355328){x:Option Addr}{m:Nat}(E:h[m]? =some (.cells (tl x).toArray bc (0,0)))
  (W:¬M m) (hM:∀b,h.size≤b→M b) {K:SliceV→ad→Prop} (hK:∀s' h',OwnS tl 1 bc M h' s' (xs.take k++x::xs.drop k)→Upd M h h'→K s' h'):
  HC PG di [.slice s.a s.len s.cap,.int .i64 k,.slice (some ⟨m,0,none⟩) 1 1] [.c .slice] K h:=by
 refine iX s k ⟨some ⟨m,0,none⟩,1,1⟩ ?_;unfold eP;have t:=T.len;have hcap:=T.cap;have G:SRow h (some ⟨m,0,none⟩) (1*1) (tl x):=⟨rfl,.inr ⟨_,rfl,om E fun i v hi=>by simpa using hi⟩⟩
 refine⟨by omega,ag.2 ?_⟩;refine CondP.intro (fun e=>?_) fun e=>?_
 ·have e:k=xs.length:=by have:=of_decide_eq_true (by simpa using e:decide ((k:Int)=(s.len:Int))=true);omega
  subst e;refine⟨_,G,AppP.own (ys:= [x]) T rfl (by simp) rfl rfl (by omega) (by simp;omega) (hM _ (az _)) fun s' h' ho hu=>hK s' h' ?_ hu⟩
  rw[bW,List.drop_length];exact ho
 have hlt:k<xs.length:=by
  rcases bQ k xs.length with h|h
  ·exact h
  ·have:((k:Int)==(s.len:Int))=true:=by rw[beq_iff_eq];omega
   rw[this]at e;cases e
 rcases T.blk with h0|⟨b,g,ha,n,hc,hr⟩
 ·omega
 have j:((xs.take k).flatMap tl).length=k*1:=by rw[iq mH,aP,bB Z]
 have u:((xs.drop k).flatMap tl).length=(xs.length-k)*1:=by rw[iq mH,aK]
 have H:m≠b:=fun e=>W (e▸n)
 rw[vo (f:=tl) xs k]at hc;have a:(xs.take k++x::xs.drop k).flatMap tl=(xs.take k).flatMap tl++(tl x++(xs.drop k).flatMap tl):=by rw[bV,be]
 have d:=B7 (xs.drop k);have c:(tl x).length=1:=rfl;have w:bM (tl x)=true:=rfl;generalize hAe:(xs.take k).flatMap tl=A at j hc a;generalize hBe:(xs.drop k).flatMap tl=B at u hc a d;generalize tl x=X at G c E a w;rw[ha];have w1:ac .i64 ((xs.length:Int)+((1:Nat):Int))=((xs.length+1:Nat):Int):=by rw[j2 (by omega)];omega
 have w2:ac .i64 ((k:Int)+((1:Nat):Int))=((k+1:Nat):Int):=by rw[j2 (by omega)];omega
 have w3:ac .i64 (((xs.length+1:Nat):Int)-(k:Int))=((xs.length+1-k:Nat):Int):=by rw[j2 (by omega)];omega
 simp only[w1,w2,w3,aB,t];refine aG (fun hgt=>?_) fun hle=>?_
 ·
  have N:s.cap=xs.length:=by omega
  refine Join.plain ⟨by omega,⟨by omega,by omega,by omega,by omega⟩,fun hin=>?_,fun I=>?_⟩
  ·omega
  ·refine⟨A,_,?_,rfl,by omega,Go.growslice_fits I (by omega),fun D z=>?_⟩
   ·rw[sub_zero]
    exact jM hc (by rw[j];omega) (by simp only[eD,dD];rw[aF,←j,eg (az _),bW])
   ·simp only[aB]at z⊢
    have U:=Upd.hnew No h (A++cL (xs.length+1-k) [.pointer none]++cL (D-(k-0+(xs.length+1-k))) [.pointer none]) bc;have bn:=bh h (A++cL (xs.length+1-k) [.pointer none]++cL (D-(k-0+(xs.length+1-k))) [.pointer none]) bc;have C:(cL (xs.length+1-k) [.pointer none]).length=(xs.length+1-k)*1:=j4 _ _;have hz2:(cL (D-(k-0+(xs.length+1-k))) [.pointer none]).length=(D-(k-0+(xs.length+1-k)))*1:=j4 _ _
    have o:k-0+(xs.length+1-k)=xs.length+1:=by omega
    rw[cG];have hsz:h.size≠m:=fun e=>by have:=bp E;omega
    have Q:h.size≠b:=fun e=>by have:=bp hc;omega
    have L:=U.get0 hc;have O:=U.get0 E;generalize hnew h _ bc=h9 at U bn L O;rw[o]at z hz2⊢;have V:cZ 1 (xs.length+1-k)=1:=bB (by omega);have m2:cZ (xs.length-k) (xs.length+1-(k+1))=xs.length-k:=bB (by omega);rw[V];have xr9:SRow h9 (some ⟨m,0,none⟩) (1*1) X:=jM O (by rw[c]) (by rw[eD,bq];rw[c];omega)
    refine⟨by omega,?_⟩;rw[g0 (by omega)];refine jx xr9 w bn (by simp only[ai,j,C];omega) fun h11 F p=>⟨by omega,?_⟩
    simp only[Bd];rw[g0 (by omega),g0 (by omega),m2];refine⟨by omega,?_⟩;have y:=p.get L (fun e=>Q e.symm)
    have br:SRow h11 (some ⟨b,0+k*1,none⟩) ((xs.length-k)*1) B:=jM y u (by
     rw[aD,aF,←j,gQ,←u,iU])
    refine jx br d F ?_ fun h16 J P=>?_
    ·simp only[ai,aP,aK,j,C,c];omega
    ·refine hK _ _ ⟨by simp;omega,mH,z,.inr ⟨h.size,cL (D-(xs.length+1)) [.pointer none],rfl,hM _ (az _),?_,by rw[j4];rfl⟩⟩ ((U.wide.trans (M':=(· =h.size)) p fun b n=>.inl (n▸hM _ (az _))).trans (M':=(· =h.size)) P fun b n=>.inl (n▸hM _ (az _)))
     rw[J,a];have:=Gr (A:=A) (X:=X) (B:=B) (Z1:=cL (xs.length+1-k) [.pointer none]) (Z2:=cL (D-(xs.length+1)) [.pointer none]) (r:=(xs.length-k)*1) j c (by rw[C,←fq];congr 1;omega);rw[o,←this];simp only[aD,fq]
 ·have N:xs.length+1≤s.cap:=by omega
  refine⟨by omega,?_⟩;simp only[Bd,dD];rw[sub_zero,g0 (show s.cap≠k+1 by omega),g0 (show s.cap≠k by omega)]
  refine⟨by omega,?_⟩;have hrl:1≤g.length:=by rw[hr];exact nn _ (by omega)
  refine Gf E hc H (by rw[cp,ai];omega) ?_;refine ay.2 ⟨by omega,by omega,?_⟩
  have V:cZ 1 (xs.length+1-k)=1:=bB (by omega);have m2:cZ (xs.length+1-k) (xs.length+1-(k+1))=xs.length-k:=by
   rw[show xs.length+1-(k+1)=xs.length-k by omega];exact oc (by omega)
  rw[m2];have br:SRow h (some ⟨b,0+k*1,none⟩) ((xs.length-k)*1) B:=jM hc u (by
   rw[aD,aF,←j,gQ,←u,iU])
  refine jx br d hc (by simp only[ai,j,u];omega) fun h1 Y S=>⟨by omega,?_⟩
  rw[V];have xr1:SRow h1 (some ⟨m,0,none⟩) (1*1) X:=jM (S.get E H) (by rw[c]) (by rw[eD,bq];rw[c];omega);refine jx xr1 w Y (by simp only[ai,aP,aK,j,u];omega) fun h2 hb2 hu2=>?_
  refine hK _ _ ⟨by simp;omega,mH,N,.inr ⟨b,g.drop 1,rfl,n,?_,?_⟩⟩ ((S.mono fun _ e=>.inl (e▸n)).tr (hu2.mono fun _ e=>.inl (e▸n)))
  ·rw[hb2,a]
   have:=Kq (A:=A) (X:=X) (B:=B) (R:=g) (q:=1) (r:=(xs.length-k)*1) j u hrl;rw[←this];simp only[aD,fq]
  ·rw[aK,hr]
   simp only;rw[t];omega
end Go.Proofs
namespace Go.Proofs
open Go Go.Lift
theorem vV{W:Nat→Prop}{h:ad}{s:SliceV}{xs:List (ByteArray×ByteArray)}(d:Sl mn 2 W h s xs)(k:xs.length*32≤140737488355328){K:SliceV→ad→Prop}
  (e:∀s' h',OwnS mn 2 ak (fun b=>h.size≤b) h' s' xs→Upd No h h'→K s' h'):HC PG cD [.slice s.a s.len s.cap] [.c .slice] K h:=by
 refine lr s ?_;unfold gn jl;refine CondP.intro (fun c=>?_) (fun i=>?_)
 ·have c:s.a=none:=by simpa using c
  have hx:xs= []:=by
   by_cases hx:xs= []
   ·exact hx
   ·obtain⟨a,g,_⟩:=d.row hx
    rw[c]at g;cases g
  subst hx;exact e _ _ (OwnS.nil mM) (Upd.refl _ _)
 ·have n:=d.upd (Upd.hnew No h [] ak) (fun _ h=>h.elim)
  refine⟨_,n.srow,?_⟩;refine AppP.own (f:=mn) (M:=fun b=>h.size≤b) (xs:= []) (ys:=xs) ⟨rfl,mM,az _,.inl rfl⟩ d.len rfl (vP xs) rfl (by omega) (by simpa using k) (by rw[fe];omega) fun s' h' o m=>?_
  exact e _ _ o ((Upd.hnew No h [] ak).trans m fun b j=>.inr j)
theorem KH{M:Nat→Prop}{h:ad}{s:SliceV}{xs:List (ByteArray×ByteArray)}(w:OwnS mn 2 ak M h s xs){k:Nat}(v:k<xs.length)(N:xs.length≤4398046511104)
  {K:SliceV→ad→Prop}(H:∀s' h',OwnS mn 2 ak M h' s' (xs.take k++xs.drop (k+1))→Upd M h h'→K s' h'):
  HC PG dW [.slice s.a s.len s.cap,.int .i64 k,.int .i64 ((k+1:Nat):Int)] [.c .slice] K h:=by
 refine kT s k ((k+1:Nat):Int) ?_;unfold gc jl;have f:=w.len;have C:=w.cap;rcases w.blk with L|⟨b,a,E,t,hc,G⟩
 ·omega
 have p:((xs.take k).flatMap mn).length=k*2:=by rw[iq mM,aP,bB (by omega)]
 have m:((xs.drop (k+1)).flatMap mn).length=(xs.length-(k+1))*2:=by rw[iq mM,aK]
 have e1:xs.flatMap mn=(xs.take k).flatMap mn++(mn xs[k]++(xs.drop (k+1)).flatMap mn):=by
  rw[←be,←ec v];exact vo xs k
 rw[e1]at hc;have d:=vP (xs.drop (k+1));have c:(xs.take k++xs.drop (k+1)).flatMap mn=(xs.take k).flatMap mn++(xs.drop (k+1)).flatMap mn:=bV;have I:(mn xs[k]).length=2:=rfl;generalize (xs.take k).flatMap mn=A at p hc c;generalize (xs.drop (k+1)).flatMap mn=B at m hc d c;generalize mn xs[k]=X at I hc;rw[E];simp only[f,aB];refine⟨by omega,by omega,by omega,CondP.intro (fun e=>?_) fun _=>?_⟩
 ·have:(k:Int)=((k+1:Nat):Int):=by simpa using e
  omega
 refine Join.plain ⟨by omega,by omega,B,?_,?_⟩
 ·by_cases j:xs.length=k+1
  ·exact⟨m,.inl (aY.1 (by rw[m,j,p9,tU]))⟩
  rw[g0 (by omega)];refine jM hc m ?_;have:(A++X).length=0+(k+1)*2:=by rw[ai];omega
  rw[show A++(X++B)++a=(A++X)++(B++a) by simp only[aF],bT this,ct m]
 ·rw[sub_zero]
  refine KP hc (by simp only[ai];omega) (by omega) d fun O g y=>?_
  have q:a.length=(s.cap-xs.length)*2:=by rw[G,f]
  refine⟨by dsimp only;omega,by dsimp only;omega,?_⟩
  simp only[Bd];rw[g0 (by omega)];have F:xs.length-(k-0+(xs.length-(k+1)))=1:=by omega
  have z:(A++(X++B)++a).drop ((k-0)*2+B.length)=(X++B).drop B.length++a:=by
   rw[aF,←cE,bT (show A.length=(k-0)*2 by rw[p,dD]),ep (by rw[ai];omega)]
  have u:(A++(X++B)++a).take ((k-0)*2)=A:=by rw[aF,ct (show A.length=(k-0)*2 by rw[p,dD])]
  rw[z,u]at g;have n:((X++B).drop B.length).length=2:=by rw[aK,ai];omega
  generalize (X++B).drop B.length=D at n g;rw[F];have J:(cL 1 [.string (⟨#[]⟩:ByteArray),.string (⟨#[]⟩:ByteArray)]).length=2:=rfl;have i:(A++B).length=0+(k-0+(xs.length-(k+1)))*2:=by rw[ai,p,m];omega
  refine B6 g (by simp only[ai]at i⊢;omega) fun P o x=>?_
  rw[ct i,←cE,bT i]at o;refine H _ _ ⟨by simp;omega,mM,by simp only;omega,.inr ⟨b,cL 1 [.string (⟨#[]⟩:ByteArray),.string (⟨#[]⟩:ByteArray)]++(D++a).drop (cL 1 [.string (⟨#[]⟩:ByteArray),.string (⟨#[]⟩:ByteArray)]).length,rfl,t,?_,?_⟩⟩ ((y.mono fun _ e=>.inl (e▸t)).tr (x.mono fun _ e=>.inl (e▸t)))
  ·rw[o,c];simp only[aF]
  ·simp only[ai,aK,J,n,q]
   omega
theorem FA{W:Nat→Prop}{h:ad}{s:SliceV}{xs:List (Option Addr)}(d:Sl q9 1 W h s xs)(k:xs.length*8≤140737488355328){K:SliceV→ad→Prop}
  (e:∀s' h',OwnS q9 1 bv (fun b=>h.size≤b) h' s' xs→Upd No h h'→K s' h'):HC PG dz [.slice s.a s.len s.cap] [.c .slice] K h:=by
 refine jP s ?_;unfold fC;refine CondP.intro (fun c=>?_) (fun i=>?_)
 ·have c:s.a=none:=by simpa using c
  have hx:xs= []:=by
   by_cases hx:xs= []
   ·exact hx
   ·obtain⟨a,g,_⟩:=d.row hx
    rw[c]at g;cases g
  subst hx;exact e _ _ (OwnS.nil qk) (Upd.refl _ _)
 ·have n:=d.upd (Upd.hnew No h [] bv) (fun _ h=>h.elim)
  refine⟨_,n.srow,?_⟩;refine AppP.own (f:=q9) (M:=fun b=>h.size≤b) (xs:= []) (ys:=xs) ⟨rfl,qk,az _,.inl rfl⟩ d.len rfl (B8 xs) rfl (by omega) (by simpa using k) (by rw[fe];omega) fun s' h' o m=>?_
  exact e _ _ o ((Upd.hnew No h [] bv).trans m fun b j=>.inr j)
theorem KI{M:Nat→Prop}{h:ad}{s:SliceV}{xs:List (Option Addr)}(w:OwnS q9 1 bv M h s xs){k:Nat}(v:k<xs.length)(N:xs.length≤4398046511104)
  {K:SliceV→ad→Prop}(H:∀s' h',OwnS q9 1 bv M h' s' (xs.take k++xs.drop (k+1))→Upd M h h'→K s' h'):
  HC PG dw [.slice s.a s.len s.cap,.int .i64 k,.int .i64 ((k+1:Nat):Int)] [.c .slice] K h:=by
 refine jA s k ((k+1:Nat):Int) ?_;unfold fo;have f:=w.len;have C:=w.cap;rcases w.blk with L|⟨b,a,E,t,hc,G⟩
 ·omega
 have p:((xs.take k).flatMap q9).length=k*1:=by rw[iq qk,aP,bB (by omega)]
 have m:((xs.drop (k+1)).flatMap q9).length=(xs.length-(k+1))*1:=by rw[iq qk,aK]
 have e1:xs.flatMap q9=(xs.take k).flatMap q9++(q9 xs[k]++(xs.drop (k+1)).flatMap q9):=by
  rw[←be,←ec v];exact vo xs k
 rw[e1]at hc;have d:=B8 (xs.drop (k+1));have c:(xs.take k++xs.drop (k+1)).flatMap q9=(xs.take k).flatMap q9++(xs.drop (k+1)).flatMap q9:=bV;have I:(q9 xs[k]).length=1:=rfl;generalize (xs.take k).flatMap q9=A at p hc c;generalize (xs.drop (k+1)).flatMap q9=B at m hc d c;generalize q9 xs[k]=X at I hc;rw[E];simp only[f,aB];refine⟨by omega,by omega,by omega,CondP.intro (fun e=>?_) fun _=>?_⟩
 ·have:(k:Int)=((k+1:Nat):Int):=by simpa using e
  omega
 refine Join.plain ⟨by omega,by omega,B,?_,?_⟩
 ·by_cases j:xs.length=k+1
  ·exact⟨m,.inl (aY.1 (by rw[m,j,p9,tU]))⟩
  rw[g0 (by omega)];refine jM hc m ?_;have:(A++X).length=0+(k+1)*1:=by rw[ai];omega
  rw[show A++(X++B)++a=(A++X)++(B++a) by simp only[aF],bT this,ct m]
 ·rw[sub_zero]
  refine KP hc (by simp only[ai];omega) (by omega) d fun O g y=>?_
  have q:a.length=(s.cap-xs.length)*1:=by rw[G,f]
  refine⟨by dsimp only;omega,by dsimp only;omega,?_⟩
  simp only[Bd];rw[g0 (by omega)];have F:xs.length-(k-0+(xs.length-(k+1)))=1:=by omega
  have z:(A++(X++B)++a).drop ((k-0)*1+B.length)=(X++B).drop B.length++a:=by
   rw[aF,←cE,bT (show A.length=(k-0)*1 by rw[p,dD]),ep (by rw[ai];omega)]
  have u:(A++(X++B)++a).take ((k-0)*1)=A:=by rw[aF,ct (show A.length=(k-0)*1 by rw[p,dD])]
  rw[z,u]at g;have n:((X++B).drop B.length).length=1:=by rw[aK,ai];omega
  generalize (X++B).drop B.length=D at n g;rw[F];have J:(cL 1 [.pointer none]).length=1:=rfl;have i:(A++B).length=0+(k-0+(xs.length-(k+1)))*1:=by rw[ai,p,m];omega
  refine B6 g (by simp only[ai]at i⊢;omega) fun P o x=>?_
  rw[ct i,←cE,bT i]at o;refine H _ _ ⟨by simp;omega,qk,by simp only;omega,.inr ⟨b,cL 1 [.pointer none]++(D++a).drop (cL 1 [.pointer none]).length,rfl,t,?_,?_⟩⟩ ((y.mono fun _ e=>.inl (e▸t)).tr (x.mono fun _ e=>.inl (e▸t)))
  ·rw[o,c];simp only[aF]
  ·simp only[ai,aK,J,n,q]
   omega
theorem M1{W:Nat→Prop}{h:ad}{s:SliceV}{xs:List (Option Addr)}(d:Sl tl 1 W h s xs)(k:xs.length*8≤140737488355328){K:SliceV→ad→Prop}
  (e:∀s' h',OwnS tl 1 bc (fun b=>h.size≤b) h' s' xs→Upd No h h'→K s' h'):HC PG dt [.slice s.a s.len s.cap] [.c .slice] K h:=by
 refine jr s ?_;unfold eX;refine CondP.intro (fun c=>?_) (fun i=>?_)
 ·have c:s.a=none:=by simpa using c
  have hx:xs= []:=by
   by_cases hx:xs= []
   ·exact hx
   ·obtain⟨a,g,_⟩:=d.row hx
    rw[c]at g;cases g
  subst hx;exact e _ _ (OwnS.nil mH) (Upd.refl _ _)
 ·have n:=d.upd (Upd.hnew No h [] bc) (fun _ h=>h.elim)
  refine⟨_,n.srow,?_⟩;refine AppP.own (f:=tl) (M:=fun b=>h.size≤b) (xs:= []) (ys:=xs) ⟨rfl,mH,az _,.inl rfl⟩ d.len rfl (B7 xs) rfl (by omega) (by simpa using k) (by rw[fe];omega) fun s' h' o m=>?_
  exact e _ _ o ((Upd.hnew No h [] bc).trans m fun b j=>.inr j)
theorem KG{M:Nat→Prop}{h:ad}{s:SliceV}{xs:List (Option Addr)}(w:OwnS tl 1 bc M h s xs){k:Nat}(v:k<xs.length)(N:xs.length≤4398046511104)
  {K:SliceV→ad→Prop}(H:∀s' h',OwnS tl 1 bc M h' s' (xs.take k++xs.drop (k+1))→Upd M h h'→K s' h'):
  HC PG dj [.slice s.a s.len s.cap,.int .i64 k,.int .i64 ((k+1:Nat):Int)] [.c .slice] K h:=by
 refine iY s k ((k+1:Nat):Int) ?_;unfold eR;have f:=w.len;have C:=w.cap;rcases w.blk with L|⟨b,a,E,t,hc,G⟩
 ·omega
 have p:((xs.take k).flatMap tl).length=k*1:=by rw[iq mH,aP,bB (by omega)]
 have m:((xs.drop (k+1)).flatMap tl).length=(xs.length-(k+1))*1:=by rw[iq mH,aK]
 have e1:xs.flatMap tl=(xs.take k).flatMap tl++(tl xs[k]++(xs.drop (k+1)).flatMap tl):=by
  rw[←be,←ec v];exact vo xs k
 rw[e1]at hc;have d:=B7 (xs.drop (k+1));have c:(xs.take k++xs.drop (k+1)).flatMap tl=(xs.take k).flatMap tl++(xs.drop (k+1)).flatMap tl:=bV;have I:(tl xs[k]).length=1:=rfl;generalize (xs.take k).flatMap tl=A at p hc c;generalize (xs.drop (k+1)).flatMap tl=B at m hc d c;generalize tl xs[k]=X at I hc;rw[E];simp only[f,aB];refine⟨by omega,by omega,by omega,CondP.intro (fun e=>?_) fun _=>?_⟩
 ·have:(k:Int)=((k+1:Nat):Int):=by simpa using e
  omega
 refine Join.plain ⟨by omega,by omega,B,?_,?_⟩
 ·by_cases j:xs.length=k+1
  ·exact⟨m,.inl (aY.1 (by rw[m,j,p9,tU]))⟩
  rw[g0 (by omega)];refine jM hc m ?_;have:(A++X).length=0+(k+1)*1:=by rw[ai];omega
  rw[show A++(X++B)++a=(A++X)++(B++a) by simp only[aF],bT this,ct m]
 ·rw[sub_zero]
  refine KP hc (by simp only[ai];omega) (by omega) d fun O g y=>?_
  have q:a.length=(s.cap-xs.length)*1:=by rw[G,f]
  refine⟨by dsimp only;omega,by dsimp only;omega,?_⟩
  simp only[Bd];rw[g0 (by omega)];have F:xs.length-(k-0+(xs.length-(k+1)))=1:=by omega
  have z:(A++(X++B)++a).drop ((k-0)*1+B.length)=(X++B).drop B.length++a:=by
   rw[aF,←cE,bT (show A.length=(k-0)*1 by rw[p,dD]),ep (by rw[ai];omega)]
  have u:(A++(X++B)++a).take ((k-0)*1)=A:=by rw[aF,ct (show A.length=(k-0)*1 by rw[p,dD])]
  rw[z,u]at g;have n:((X++B).drop B.length).length=1:=by rw[aK,ai];omega
  generalize (X++B).drop B.length=D at n g;rw[F];have J:(cL 1 [.pointer none]).length=1:=rfl;have i:(A++B).length=0+(k-0+(xs.length-(k+1)))*1:=by rw[ai,p,m];omega
  refine B6 g (by simp only[ai]at i⊢;omega) fun P o x=>?_
  rw[ct i,←cE,bT i]at o;refine H _ _ ⟨by simp;omega,mH,by simp only;omega,.inr ⟨b,cL 1 [.pointer none]++(D++a).drop (cL 1 [.pointer none]).length,rfl,t,?_,?_⟩⟩ ((y.mono fun _ e=>.inl (e▸t)).tr (x.mono fun _ e=>.inl (e▸t)))
  ·rw[o,c];simp only[aF]
  ·simp only[ai,aK,J,n,q]
   omega
end Go.Proofs
namespace Go.Proofs
open Go.Lift
abbrev Pr:=ByteArray×ByteArray
theorem Az{a b:ByteArray}:a.toList=b.toList↔a=b:=by
 constructor
 ·intro h
  rw[ByteArray.toList_eq,ByteArray.toList_eq]at h;cases a;cases b;simp at h;subst h;rfl
 ·rintro rfl;rfl
def kl(a b:ByteArray):Prop:=cA a.toList b.toList=true
instance (a b:ByteArray):Decidable (kl a b):=inferInstanceAs (Decidable (_=true))
theorem OC{a b:ByteArray}:kl a b↔a.toList<b.toList:=by unfold kl;rw[bytesLess_eq,decide_eq_true_iff]
theorem dV(a:ByteArray):¬kl a a:=by rw[OC];exact List.lt_irrefl _
theorem oJ{a b c:ByteArray}(h:kl a b)(k:kl b c):kl a c:=by rw[OC]at*;exact List.lt_trans h k
theorem tri:∀x y:List UInt8,cA x y=false→x≠y→cA y x=true
 | [],[],_,h=>absurd rfl h
 | [],_::_,h,_=>by simp[cA]at h
 |_::_,[],_,_=>rfl
 |a::x,b::y,h,hn=>by
  simp only[cA,Bool.or_eq_false_iff,decide_eq_false_iff_not,Bool.and_eq_false_iff]at h;simp only[cA,Bool.or_eq_true,decide_eq_true_iff,Bool.and_eq_true];by_cases e:a=b
  ·subst e
   right;refine⟨by simp,tri x y ?_ fun e=>hn (by rw[e])⟩
   rcases h.2 with h|h
   ·simp at h
   ·exact h
  ·left
   have c:=h.1;rw[UInt8.lt_iff_toNat_lt]at c⊢;have:a.toNat≠b.toNat:=fun h=>e (UInt8.toNat_inj.1 h)
   omega
theorem C0{a b:ByteArray}(h:¬kl a b)(k:a≠b):kl b a:=tri _ _ (by unfold kl at h;simpa using h) fun e=>k (Az.1 e)
def GJ(a b:ByteArray):Int:=if kl a b then-1 else if a=b then 0 else 1
theorem H8{x:ByteArray}{h:ad}{K:Bool→ad→Prop}(a:K false h):HC PG lS [.string x] [.c .bool] K h:=by
 refine B1 x ?_;unfold ut;simpa using a
theorem Du{a b:ByteArray}{h:ad}{K:Int→ad→Prop}(c:K (GJ a b) h):HC PG jY [.string a,.string b] [.c (.int .i64)] K h:=by
 refine zl a b ?_;unfold rQ;refine H8 (H8 (ag.2 (ag.2 ?_)));unfold GJ at c;refine CondP.intro (fun e=>?_) fun e=>?_
 ·rw[if_pos (show kl a b from e)]at c;exact c
 ·have d:¬kl a b:=fun h=>by rw[show cA a.toList b.toList=true from h]at e;cases e
  rw[if_neg d]at c;rw[e];refine CondP.intro (fun e2=>?_) fun e2=>?_
  ·rw[if_neg (fun h=>by subst h;simp at e2)]at c;exact c
  ·have:a.toList=b.toList:=by simpa using e2
   rw[if_pos (Az.1 this)]at c;exact c
theorem Oq{p:Pr}{k:ByteArray}{h:ad}{K:Int→ad→Prop}(a:∀h',Upd No h h'→K (GJ p.1 k) h'):HC PG pY [.agg #[.string p.1,.string p.2],.string k] [.c (.int .i64)] K h:=by
 refine GY p k ?_;unfold zA av eI ny;have b1:=bh h [.string p.1,.string p.2] ak;refine⟨p.1,by rw[cG,bJ,aI b1];rfl,Du (a _ (Upd.hnew No h _ _))⟩
abbrev dM(l:List Pr):Prop:=l.Pairwise fun p q=>kl p.1 q.1
def pos(l:List Pr)(k:ByteArray):Nat:=(l.takeWhile fun p=>decide (kl p.1 k)).length
def bX(l:List Pr)(k:ByteArray):Bool:=l.any fun p=>decide (p.1=k)
theorem Ol{l:List Pr}{k:ByteArray}{i:Nat}(hi:i≤l.length)(a:∀j (h:j<l.length),j<i→kl l[j].1 k)(b:∀(h:i<l.length),¬kl l[i].1 k):pos l k=i:=by
 unfold pos;induction l generalizing i with
 |nil=>simp at hi;simp[hi]
 |cons p l ih=>
  rw[List.takeWhile_cons];cases i with
  |zero=>
   have:=b (by simp);simp only[List.getElem_cons_zero]at this;rw[if_neg (by simpa using this)];rfl
  |succ i=>
   have:=a 0 (by simp) (by omega);simp only[List.getElem_cons_zero]at this;rw[if_pos (by simpa using this),List.length_cons];congr 1
   refine ih (by simpa using hi) (fun j c d=>?_) fun h=>?_
   ·have:=a (j+1) (by simpa using c) (by omega)
    simpa using this
   ·have:=b (by simpa using h)
    simpa using this
theorem Om(l:List Pr)(k:ByteArray):pos l k≤l.length:=by
 unfold pos;exact(List.takeWhile_prefix _).length_le
theorem Gy{W:Nat→Prop}{h:ad}{s:SliceV}{l:List Pr}(V:Sl mn 2 W h s l)(hr:dM l)(hn:l.length≤1000000000)(k:ByteArray){K:Int×Bool→ad→Prop}
  (E:∀h',Upd No h h'→K ((pos l k:Int),bX l k) h'):HC PG oT [.slice s.a s.len s.cap,.string k] [.c (.int .i64),.c .bool] K h:=by
 refine IS s k ?_;unfold Bw;refine gD s k _ ?_;unfold dG dU yu cC kD;have X:=V.len;have F:∀{p:Pr} {h:ad} {K:Int→ad→Prop},(∀h',Upd No h h'→K (GJ p.1 k) h')→HV PG (.func (.func pY) #[] #[]) [.agg #[.string p.1,.string p.2],.string k] [.c (.int .i64)] K h:=fun E=>HV.mk' (Oq E)
 refine LoopP.ghost (fun(g:Nat×Nat) (t:Int×Int) h'=>t.1=(g.1:Int)∧t.2=(g.2:Int)∧g.1≤g.2∧g.2≤l.length∧Upd No h h'∧(∀j (T:j<l.length),j<g.1→kl l[j].1 k)∧(∀j (T:j<l.length),g.2≤j→¬kl l[j].1 k)) (fun g=>g.2-g.1) (0,l.length)
  ⟨rfl,by simp only;omega,by simp,by simp,Upd.refl _ _,fun j T h=>by omega,fun j T h=>by simp only at h;omega⟩ ?_
 rintro I ⟨i,j⟩ ⟨ti,tj⟩ h' ⟨e1,e2,A,z,N,n,u⟩ Y;simp only at e1 e2 A z n u;subst e1 e2;have J:=V.upd N fun _ h=>h.elim
 have mono:∀a b (D:a<l.length) (U:b<l.length),a<b→kl l[a].1 l[b].1:=fun a b D U S=>List.pairwise_iff_getElem.1 hr a b D U S
 refine aG (fun v=>?_) fun P=>?_
 ·have v:i<j:=by have:(i:Int)<(j:Int):=v;omega
  have em:ac .i64 (fa (ac .u64 (ac .i64 ((i:Int)+(j:Int)))) (2^(min (1:Int).toNat (af .u64))))=(((i+j)/2:Nat):Int):=by
   have Z:(2^(min (1:Int).toNat (af .u64)):Int)=2:=rfl;rw[Z,j2 (x:=(i:Int)+(j:Int)) (by omega),Go.IntWalk.u64_in _ (by omega),Int.fdiv_eq_ediv_of_nonneg _ (by omega),j2 (by omega)];omega
  refine⟨by decide,?_⟩;simp only[Bd];rw[em];generalize hm:(i+j)/2=m;have B:m<l.length:=by omega
  obtain⟨a,D,_,O⟩:=J.at (aJ B);refine⟨by omega,a,D,l[m].1,O 0 _ rfl,l[m].2,O 1 _ rfl,F fun h2 w=>?_⟩
  refine aG (fun o=>?_) fun G=>?_
  ·have c:kl l[m].1 k:=by
    unfold GJ at o;by_cases c:kl l[m].1 k
    ·exact c
    ·rw[if_neg c]at o;split at o<;>omega
   refine Y (m+1,j) _ _ ⟨by simp only;rw[j2 (by omega)];omega,rfl,by simp only;omega,z,N.tr w,fun q y C=>?_,u⟩ (by simp only;omega)
   simp only at C;rcases bQ q m with h|h
   ·exact oJ (mono q m y B h) c
   ·have:q=m:=by omega
    subst this;exact c
  ·have f:¬kl l[m].1 k:=fun c=>G (by unfold GJ;rw[if_pos c];decide)
   refine Y (i,m) _ _ ⟨rfl,rfl,by simp only;omega,by simp only;omega,N.tr w,n,fun q y C L=>?_⟩ (by simp only;omega)
   simp only at C;rcases bQ m q with h|h
   ·exact f (oJ (mono m q B y h) L)
   ·have:q=m:=by omega
    subst this;exact f L
 ·have A:i=j:=by have:¬(i:Int)<(j:Int):=P;omega
  subst A;have H:pos l k=i:=Ol z n fun hi=>u i hi (az _)
  rw[H]at E;refine aG (fun v=>?_) fun R=>?_
  ·have d:i<l.length:=by have:(i:Int)<(s.len:Int):=v;omega
   obtain⟨a,D,_,O⟩:=J.at (aJ d);refine⟨by simp only;omega,a,D,l[i].1,O 0 _ rfl,l[i].2,O 1 _ rfl,F fun h2 w=>?_⟩
   have f:=u i d (az _);have Q:(GJ l[i].1 k==(0:Int))=bX l k:=by
    unfold GJ bX;rw[if_neg f,Bool.eq_iff_iff,List.any_eq_true];constructor
    ·intro h
     split at h
     ·rename_i e;exact⟨l[i],List.getElem_mem d,decide_eq_true e⟩
     ·simp at h
    ·rintro⟨p,H,e⟩
     have e:=of_decide_eq_true e;obtain⟨q,y,rfl⟩:=List.mem_iff_getElem.1 H;have:q=i:=by
      rcases Nat.lt_trichotomy q i with h|h|h
      ·exact absurd (e▸n q y h) (dV _)
      ·exact h
      ·exact absurd (e▸mono i q d y h) f
     subst this;rw[if_pos e];rfl
   rw[Q];exact E _ (N.tr w)
  ·have d:i=l.length:=by have:¬(i:Int)<(s.len:Int):=R;omega
   have Q:bX l k=false:=by
    unfold bX;rw[List.any_eq_false];intro p H e;have e:=of_decide_eq_true e;obtain⟨q,y,rfl⟩:=List.mem_iff_getElem.1 H;exact absurd (e▸n q y (by omega)) (dV _)
   rw[Q]at E;exact E _ N
end Go.Proofs
