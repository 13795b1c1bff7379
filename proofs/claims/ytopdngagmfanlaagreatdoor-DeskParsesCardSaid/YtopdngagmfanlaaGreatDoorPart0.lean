/- A part of the proof that the named laws of this program answer true, whatever the input. -/
import Derived.Shelf.Lays
import Derived.Shelf.LaysM
import Derived.Test.YtopdngagmfanlaaGreatDoorTreeF0
import Derived.Test.YtopdngagmfanlaaGreatDoorTreeF1
import Derived.Test.YtopdngagmfanlaaGreatDoorTreeF2
import Derived.Test.YtopdngagmfanlaaGreatDoorLaw0
import Derived.Test.YtopdngagmfanlaaGreatDoorLift3
import Derived.Lib.Overlaps
import Derived.Sort.Walk0
set_option maxRecDepth 100000
open BitVec renaming ofInt→aq
open ByteArray renaming size_extract→pP
open Go.IntKind renaming wrap→ac,bits→ag
open Go.Op renaming bytesLess→cW
open Int renaming fdiv→gi,toNat_natCast→ak
open List renaming flatMap_cons→bH,take_length→bG,length_take→aY,length_drop→aS,flatMap_append→bW,drop_zero→fM,append_assoc→aK,take_append_of_le_length→fG,take_of_length_le→bD,length_append→ai,drop_left→jl,take_left→kr,size_toArray→cP,drop_eq_getElem_cons→cF,length_eq_zero_iff→bj,drop_left'→cD,take_left'→cR,drop_drop→cS,drop_append_of_le_length→fH,getElem?_eq_getElem→ax
open Nat renaming beq→av,zero_add→aP,sub_self→sO,le_refl→au,lt_or_ge→cC,min_eq_left→bR,sub_zero→eK,min→dN,add_one_mul→gv,one_mul→rB,le_mul_of_pos_left→pM,min_eq_right→qx,zero_mul→xu
namespace Go.Proofs
open Go Go.Lift Go.Shelf
def KM:Ren:=⟨fun n=>bif av n 129 then 130 else bif av n 137 then 37 else bif av n 138 then 113 else bif av n 143 then 114 else bif av n 195 then 136 else bif av n 217 then 70 else bif av n 218 then 137 else bif av n 219 then 138 else bif av n 224 then 192 else bif av n 225 then 191 else bif av n 240 then 74 else bif av n 266 then 96 else bif av n 267 then 193 else bif av n 276 then 107 else bif av n 283 then 103 else bif av n 284 then 104 else bif av n 285 then 105 else bif av n 314 then 269 else bif av n 317 then 129 else bif av n 318 then 131 else 0,
 fun n=>bif av n 0 then 0 else bif av n 3 then 3 else bif av n 4 then 4 else bif av n 5 then 5 else bif av n 9 then 9 else bif av n 20 then 20 else bif av n 37 then 95 else bif av n 46 then 32 else bif av n 51 then 23 else bif av n 53 then 52 else bif av n 70 then 103 else bif av n 72 then 105 else bif av n 146 then 335 else bif av n 164 then 168 else bif av n 212 then 202 else 0,
 fun n=>bif av n 1 then 0 else bif av n 17 then 3 else 0⟩
theorem AA:Lays.n240 PG KM:=by constructor<;>first|kernel_rfl|(intro w;kernel_rfl)
theorem Iu:Lays.n138 PG KM:=by constructor<;>first|kernel_rfl|(intro w;kernel_rfl)
theorem It:Lays.n143 PG KM:=by constructor<;>first|kernel_rfl|(intro w;kernel_rfl)
theorem Iw:Lays.n137 PG KM:=by constructor<;>first|kernel_rfl|(intro w;kernel_rfl)
theorem Ip:Lays.n284 PG KM:=by constructor<;>first|kernel_rfl|(intro w;kernel_rfl)
theorem GW:LaysM.n284 PG KM:=by constructor<;>first|exact Ip|kernel_rfl|(intro w;kernel_rfl)
theorem Im:Lays.n285 PG KM:=by constructor<;>first|kernel_rfl|(intro w;kernel_rfl)
theorem Iq:Lays.n283 PG KM:=by constructor<;>first|kernel_rfl|(intro w;kernel_rfl)
end Go.Proofs
namespace Go.Proofs
open Go.Lift
theorem O4(n:Int):0≤ac .u64 n∧ac .u64 n<18446744073709551616:=by rw[IntKind.wrap_u64];omega
theorem kD{x:Int}(h: -4611686018427387904≤x∧x≤4611686018427387904):ac .i64 x=x:=Go.IntWalk.i64_in _ (by omega)
theorem cM{i n:Nat}(h:i<n)(a:n≤4611686018427387904):ac .i64 ((i:Int)+1)=((i+1:Nat):Int):=by rw[kD (by omega)];omega
theorem vC{h:ad}{b i:Nat}{c:Array Value}{t:TypeId}{v:Value}{k:ad→Prop}(a:h[b]? =some (.cells c t (0,0)))
  (d:∀h',h'[b]? =some (.cells (c.setIfInBounds i v) t (0,0))→Upd (· =b) h h'→k h'):At (hset h ⟨b,i,none⟩ v) k:=by
 refine d _ ?_ (Upd.hset _ _ rfl);rw[G4 a,jo a]
def VR(a b:Int):Int:=ac .u64 (aq (ag .u64) a&&&aq (ag .u64) b).toNat
def gl(a b:Int):Int:=ac .u64 (aq (ag .u64) a^^^aq (ag .u64) b).toNat
def UL(a b:Int):Int:=ac .u64 (aq (ag .u64) a|||aq (ag .u64) b).toNat
def Pi(x n:Int):Int:=
 UL (ac .u64 (x*2^(min (VR (ac .u64 n) 63).toNat (ag .u64)))) (gi x (2^(min (ac .u64 (64-VR (ac .u64 n) 63)).toNat (ag .u64))))
theorem DK{x n:Int}{h:ad}{K:Int→ad→Prop}(a:K (Pi x n) h):HC PG dh [.int .u64 x,.int .i64 n] [.c (.int .u64)] K h:=by
 refine vI x n ?_;unfold od;exact⟨(O4 _).1,(O4 _).1,a⟩
abbrev Q4:=Int×Int×Int×Int
def q4(s:Q4):Array Value:= #[.int .u64 s.1,.int .u64 s.2.1,.int .u64 s.2.2.1,.int .u64 s.2.2.2]
def Xq(a b:Int):Int:=ac .u64 (a+b)
def V7(s:Q4):Q4:=(Xq s.1 s.2.1,s.2)
def WB(s:Q4):Q4:=(s.1,gl (Pi s.2.1 13) s.1,s.2.2)
def Xz(s:Q4):Q4:=(Pi s.1 32,s.2)
def X3(s:Q4):Q4:=(s.1,s.2.1,Xq s.2.2.1 s.2.2.2,s.2.2.2)
def YB(s:Q4):Q4:=(s.1,s.2.1,s.2.2.1,gl (Pi s.2.2.2 16) s.2.2.1)
def YX(s:Q4):Q4:=(Xq s.1 s.2.2.2,s.2)
def ZE(s:Q4):Q4:=(s.1,s.2.1,s.2.2.1,gl (Pi s.2.2.2 21) s.1)
def Z0(s:Q4):Q4:=(s.1,s.2.1,Xq s.2.2.1 s.2.1,s.2.2.2)
def s09(s:Q4):Q4:=(s.1,gl (Pi s.2.1 17) s.2.2.1,s.2.2)
def s10(s:Q4):Q4:=(s.1,s.2.1,Pi s.2.2.1 32,s.2.2.2)
def Ph(s:Q4):Q4:=s10 (s09 (Z0 (ZE (YX (YB (X3 (Xz (WB (V7 s)))))))))
def pk:Nat→Q4→Q4
 |0,s=>s
 |n+1,s=>pk n (Ph s)
theorem qg{h:ad}{b i:Nat}{t:TypeId}{s s':Q4}{v:Value}{k:ad→Prop}(c:h[b]? =some (.cells (q4 s) t (0,0))) (e:(q4 s).setIfInBounds i v=q4 s')
  (f:∀h',h'[b]? =some (.cells (q4 s') t (0,0))→Upd (· =b) h h'→k h'):At (hset h ⟨b,i,none⟩ v) k:=
 vC c fun h' a d=>f h' (e▸a) d
theorem Jk{n:Nat}(Z:n≤100){h:ad}{b:Nat}{t:TypeId}{s:Q4}(y:h[b]? =some (.cells (q4 s) t (0,0))) {K:Unit→ad→Prop}
  (P:∀h',h'[b]? =some (.cells (q4 (pk n s)) t (0,0))→Upd (· =b) h h'→K () h'):HC PG jf [.pointer (some ⟨b,0,none⟩),.int .i64 n] [] K h:=by
 refine Bz _ _ ?_;unfold tN bf cU Av bM;refine LoopP.ghost (fun(g:Nat×Q4) (Q:Int) h'=>Q=(g.1:Int)∧g.1≤n∧h'[b]? =some (.cells (q4 g.2) t (0,0))∧Upd (· =b) h h'∧pk (n-g.1) g.2=pk n s) (fun g=>n-g.1) (0,s) ⟨rfl,Nat.zero_le _,y,Upd.refl _ _,rfl⟩ ?_
 rintro I ⟨i,d⟩ Q h' ⟨O,hi,a,N,x⟩ U;simp only at O hi a x;subst O;refine aF (fun u=>?_) fun R=>?_
 ·have u:i<n:=by omega
  have c:∀{h:ad} {s:Q4} {i:Nat},h[b]? =some (.cells (q4 s) t (0,0))→aD h ⟨b,0+i,none⟩=(q4 s)[i]?:=fun y=>by rw[aP];exact aW y
  have w:∀{h:ad} {s:Q4} {i:Nat},h[b]? =some (.cells (q4 s) t (0,0))→i<4→Wr h ⟨b,0+i,none⟩:=fun y hi=>by rw[aP];exact iM y hi
  simp only[show((0:Int)).toNat*1=0 from rfl,show((1:Int)).toNat*1=1 from rfl,show((2:Int)).toNat*1=2 from rfl,show((3:Int)).toNat*1=3 from rfl]
  refine⟨_,rfl,by decide,_,c (i:=0) a,_,rfl,by decide,_,c (i:=1) a,_,rfl,by decide,w (i:=0) a (by decide),qg (s':=V7 d) a rfl fun h2 k E=>?_⟩
  refine⟨_,rfl,by decide,_,c (i:=1) k,_,rfl,by decide,_,c (i:=0) k,_,rfl,DK ⟨c (i:=0) k,by decide,w (i:=1) k (by decide),qg (s':=WB (V7 d)) k rfl fun h3 v F=>?_⟩⟩
  refine⟨_,rfl,by decide,_,c (i:=0) v,_,rfl,DK ⟨by decide,w (i:=0) v (by decide),qg (s':=Xz (WB (V7 d))) v rfl fun h4 o G=>?_⟩⟩
  refine⟨_,rfl,by decide,_,c (i:=2) o,_,rfl,by decide,_,c (i:=3) o,_,rfl,by decide,w (i:=2) o (by decide),qg (s':=X3 (Xz (WB (V7 d)))) o rfl fun Y e H=>?_⟩
  refine⟨_,rfl,by decide,_,c (i:=3) e,_,rfl,by decide,_,c (i:=2) e,_,rfl,DK ⟨c (i:=2) e,by decide,w (i:=3) e (by decide),qg (s':=YB (X3 (Xz (WB (V7 d))))) e rfl fun V p D=>?_⟩⟩
  refine⟨_,rfl,by decide,_,c (i:=0) p,_,rfl,by decide,_,c (i:=3) p,_,rfl,by decide,w (i:=0) p (by decide),qg (s':=YX (YB (X3 (Xz (WB (V7 d)))))) p rfl fun h7 f J=>?_⟩
  refine⟨_,rfl,by decide,_,c (i:=3) f,_,rfl,by decide,_,c (i:=0) f,_,rfl,DK ⟨c (i:=0) f,by decide,w (i:=3) f (by decide),qg (s':=ZE (YX (YB (X3 (Xz (WB (V7 d))))))) f rfl fun W q C=>?_⟩⟩
  refine⟨_,rfl,by decide,_,c (i:=2) q,_,rfl,by decide,_,c (i:=1) q,_,rfl,by decide,w (i:=2) q (by decide),qg (s':=Z0 (ZE (YX (YB (X3 (Xz (WB (V7 d)))))))) q rfl fun X j L=>?_⟩
  refine⟨_,rfl,by decide,_,c (i:=1) j,_,rfl,by decide,_,c (i:=2) j,_,rfl,DK ⟨c (i:=2) j,by decide,w (i:=1) j (by decide),qg (s':=s09 (Z0 (ZE (YX (YB (X3 (Xz (WB (V7 d))))))))) j rfl fun T m z=>?_⟩⟩
  refine⟨_,rfl,by decide,_,c (i:=2) m,_,rfl,DK ⟨by decide,w (i:=2) m (by decide),qg (s':=Ph d) m rfl fun S B A=>?_⟩⟩
  rw[cM u (by omega)];refine U (i+1,Ph d) _ _ ⟨rfl,u,B,N.tr (E.tr (F.tr (G.tr (H.tr (D.tr (J.tr (C.tr (L.tr (z.tr A))))))))),?_⟩ (by simp only;omega);simp only;rw[←x,show n-i=(n-(i+1))+1 by omega];rfl
 ·obtain rfl:i=n:=by omega
  rw[sO]at x;have x:d=pk i s:=x;rw[←x]at P;exact P _ a N
end Go.Proofs
namespace Go.Proofs
open Go.Lift
def Xk(s:ByteArray)(i:Nat):Int:=match s[i]? with|some b=>(b.toNat:Int)|none=>0
def ZD(b:Int)(n:Int):Int:=ac .u64 ((ac .u64 b)*2^(min n.toNat (ag .u64)))
def wj(s:ByteArray):Nat→Int→Int
 |0,t=>t
 |k+1,t=>wj s k (UL t (if k=0 then ac .u64 (Xk s 0)else ZD (Xk s k) ((8*k:Nat):Int)))
def Er(s:ByteArray):Int:=wj s s.size 0
theorem rh{s:ByteArray}{i:Nat}(h:i<s.size):∃b,s[i]? =some b∧Xk s i=(b.toNat:Int):=⟨s[i],getElem?_pos s i h,by simp[Xk,getElem?_pos s i h]⟩
theorem QX{s:ByteArray}(O:s.size≤8){h:ad}{K:Int→ad→Prop}(g:K (Er s) h):HC PG xa [.string s] [.c (.int .u64)] K h:=by
 refine Qx s ?_;unfold HS;refine Join.intro (fun t h'=>h'=h∧1≤s.size∧wj s 1 t=wj s s.size 0) (fun D n=>?_) ?_
 ·refine Join.intro (fun t h'=>h'=h∧2≤s.size∧wj s 2 t=wj s s.size 0) (fun G o=>?_) ?_
  ·refine Join.intro (fun t h'=>h'=h∧3≤s.size∧wj s 3 t=wj s s.size 0) (fun J q=>?_) ?_
   ·refine Join.intro (fun t h'=>h'=h∧4≤s.size∧wj s 4 t=wj s s.size 0) (fun H p=>?_) ?_
    ·refine Join.intro (fun t h'=>h'=h∧5≤s.size∧wj s 5 t=wj s s.size 0) (fun C k=>?_) ?_
     ·refine Join.intro (fun t h'=>h'=h∧6≤s.size∧wj s 6 t=wj s s.size 0) (fun F m=>?_) ?_
      ·refine Join.intro (fun t h'=>h'=h∧7≤s.size∧wj s 7 t=wj s s.size 0) (fun N j=>?_) ?_
       ·refine CondP.intro (fun e=>?_) fun u=>?_
        ·have e:s.size=8:=by have:=of_decide_eq_true (by simpa using e:decide ((s.size:Int)=8)=true);omega
         obtain⟨b,a,c⟩:=rh (s:=s) (i:=7) (by omega);refine⟨b,by decide,a,by decide,j _ _ ⟨rfl,by omega,?_⟩⟩
         rw[e,←c];rfl
        refine CondP.intro (fun e=>?_) fun v=>?_
        ·have e:s.size=7:=by have:=of_decide_eq_true (by simpa using e:decide ((s.size:Int)=7)=true);omega
         exact j _ _ ⟨rfl,by omega,by rw[e]⟩
        refine CondP.intro (fun e=>?_) fun w=>?_
        ·have e:s.size=6:=by have:=of_decide_eq_true (by simpa using e:decide ((s.size:Int)=6)=true);omega
         exact m _ _ ⟨rfl,by omega,by rw[e]⟩
        refine CondP.intro (fun e=>?_) fun x=>?_
        ·have e:s.size=5:=by have:=of_decide_eq_true (by simpa using e:decide ((s.size:Int)=5)=true);omega
         exact k _ _ ⟨rfl,by omega,by rw[e]⟩
        refine CondP.intro (fun e=>?_) fun y=>?_
        ·have e:s.size=4:=by have:=of_decide_eq_true (by simpa using e:decide ((s.size:Int)=4)=true);omega
         exact p _ _ ⟨rfl,by omega,by rw[e]⟩
        refine CondP.intro (fun e=>?_) fun z=>?_
        ·have e:s.size=3:=by have:=of_decide_eq_true (by simpa using e:decide ((s.size:Int)=3)=true);omega
         exact q _ _ ⟨rfl,by omega,by rw[e]⟩
        refine CondP.intro (fun e=>?_) fun e2=>?_
        ·have e:s.size=2:=by have:=of_decide_eq_true (by simpa using e:decide ((s.size:Int)=2)=true);omega
         exact o _ _ ⟨rfl,by omega,by rw[e]⟩
        refine CondP.intro (fun e=>?_) fun e1=>?_
        ·have e:s.size=1:=by have:=of_decide_eq_true (by simpa using e:decide ((s.size:Int)=1)=true);omega
         exact n _ _ ⟨rfl,by omega,by rw[e]⟩
        have e:s.size=0:=by
         have I:¬(s.size:Int)=1:=by simpa using e1
         have L:¬(s.size:Int)=2:=by simpa using e2
         have B:¬(s.size:Int)=3:=by simpa using z
         have q4:¬(s.size:Int)=4:=by simpa using y
         have E:¬(s.size:Int)=5:=by simpa using x
         have A:¬(s.size:Int)=6:=by simpa using w
         have P:¬(s.size:Int)=7:=by simpa using v
         have Q:¬(s.size:Int)=8:=by simpa using u
         omega
        unfold Er at g;rw[e]at g;exact g
       ·rintro t _ ⟨rfl,f,d⟩
        obtain⟨b,a,c⟩:=rh (s:=s) (i:=6) (by omega);refine⟨b,by decide,a,by decide,m _ _ ⟨rfl,by omega,?_⟩⟩
        rw[←d,←c];rfl
      ·rintro t _ ⟨rfl,f,d⟩
       obtain⟨b,a,c⟩:=rh (s:=s) (i:=5) (by omega);refine⟨b,by decide,a,by decide,k _ _ ⟨rfl,by omega,?_⟩⟩
       rw[←d,←c];rfl
     ·rintro t _ ⟨rfl,f,d⟩
      obtain⟨b,a,c⟩:=rh (s:=s) (i:=4) (by omega);refine⟨b,by decide,a,by decide,p _ _ ⟨rfl,by omega,?_⟩⟩
      rw[←d,←c];rfl
    ·rintro t _ ⟨rfl,f,d⟩
     obtain⟨b,a,c⟩:=rh (s:=s) (i:=3) (by omega);refine⟨b,by decide,a,by decide,q _ _ ⟨rfl,by omega,?_⟩⟩
     rw[←d,←c];rfl
   ·rintro t _ ⟨rfl,f,d⟩
    obtain⟨b,a,c⟩:=rh (s:=s) (i:=2) (by omega);refine⟨b,by decide,a,by decide,o _ _ ⟨rfl,by omega,?_⟩⟩
    rw[←d,←c];rfl
  ·rintro t _ ⟨rfl,f,d⟩
   obtain⟨b,a,c⟩:=rh (s:=s) (i:=1) (by omega);refine⟨b,by decide,a,by decide,n _ _ ⟨rfl,by omega,?_⟩⟩
   rw[←d,←c];rfl
 ·rintro t _ ⟨rfl,f,d⟩
  obtain⟨b,a,c⟩:=rh (s:=s) (i:=0) (by omega);refine⟨b,by decide,a,?_⟩
  unfold Er at g;rw[←d]at g;rw[←c];exact g
end Go.Proofs
namespace Go.Proofs
open Go.Lift
def Gq(m:Int)(s:Q4):Q4:=
 let r:=pk 2 (s.1,s.2.1,s.2.2.1,gl s.2.2.2 m)
 (gl r.1 m,r.2)
theorem Q7{m:Int}{h:ad}{b:Nat}{t:TypeId}{s:Q4}(d:h[b]? =some (.cells (q4 s) t (0,0))) {K:Unit→ad→Prop}
  (k:∀h',h'[b]? =some (.cells (q4 (Gq m s)) t (0,0))→Upd (· =b) h h'→K () h'):HC PG mW [.pointer (some ⟨b,0,none⟩),.int .u64 m] [] K h:=by
 refine Ef _ _ ?_;unfold wD bf cU bM pf;have c:∀{h:ad} {s:Q4} {i:Nat},h[b]? =some (.cells (q4 s) t (0,0))→aD h ⟨b,0+i,none⟩=(q4 s)[i]?:=fun d=>by rw[aP];exact aW d
 have w:∀{h:ad} {s:Q4} {i:Nat},h[b]? =some (.cells (q4 s) t (0,0))→i<4→Wr h ⟨b,0+i,none⟩:=fun d hi=>by rw[aP];exact iM d hi
 simp only[show((0:Int)).toNat*1=0 from rfl,show((3:Int)).toNat*1=3 from rfl]
 refine⟨_,rfl,by decide,_,c (i:=3) d,_,rfl,by decide,w (i:=3) d (by decide),qg (s':=(s.1,s.2.1,s.2.2.1,gl s.2.2.2 m)) d rfl fun u o g=>?_⟩
 refine Jk (n:=2) (by omega) o fun q a j=>?_
 have p:Gq m s=(gl (pk 2 (s.1,s.2.1,s.2.2.1,gl s.2.2.2 m)).1 m,(pk 2 (s.1,s.2.1,s.2.2.1,gl s.2.2.2 m)).2):=by unfold Gq;rfl
 rw[p]at k;generalize pk 2 (s.1,s.2.1,s.2.2.1,gl s.2.2.2 m)=r at a k;refine⟨_,rfl,by decide,_,c (i:=0) a,_,rfl,by decide,w (i:=0) a (by decide),qg (s':=(gl r.1 m,r.2)) a rfl fun v f e=>?_⟩
 exact k _ f (g.tr (j.tr e))
def Gt:Nat→ByteArray→Q4→ByteArray×Q4
 |0,s,q=>(s,q)
 |n+1,s,q=>if 8≤s.size then Gt n (s.extract 8 s.size) (Gq (Er (s.extract 0 8)) q)else(s,q)
def Zs(r:Q4):Int:=gl (gl (gl r.1 r.2.1) r.2.2.1) r.2.2.2
def Zr(q:Q4):Int:=Zs (pk 4 (q.1,q.2.1,gl q.2.2.1 255,q.2.2.2))
def ZY(n:Nat)(g:ByteArray×Q4):Int:=Zr (Gq (UL (Er g.1) (ZD (n:Int) 56)) g.2)
def Ww(k0 k1:Int)(s:ByteArray):Int:=
 ZY s.size (Gt s.size s (gl k0 8317987319222330741,gl k1 7237128888997146477,gl k0 7816392313619706465,gl k1 8387220255154660723))
theorem Xd{a:ad}{b:Nat}{t:TypeId}{r:Q4}(f:a[b]? =some (.cells (q4 r) t (0,0))) {K:Int→Prop} (g:K (Zs r)):
  (((0:Int)≤(0:Int)∧(0:Int)<((4:Nat):Int))∧
   ∃v30:Int,aD a (adr ⟨b,0,none⟩ ((0:Int).toNat*1))=some (.int .u64 v30)∧
   (((0:Int)≤(1:Int)∧(1:Int)<((4:Nat):Int))∧
    ∃v31:Int,aD a (adr ⟨b,0,none⟩ ((1:Int).toNat*1))=some (.int .u64 v31)∧
    Bd (ac .u64 (aq (ag .u64) v30^^^aq (ag .u64) v31).toNat:Int) (fun n32=>
     (((0:Int)≤(2:Int)∧(2:Int)<((4:Nat):Int))∧
      ∃v33:Int,aD a (adr ⟨b,0,none⟩ ((2:Int).toNat*1))=some (.int .u64 v33)∧
      Bd (ac .u64 (aq (ag .u64) n32^^^aq (ag .u64) v33).toNat:Int) (fun e=>
       (((0:Int)≤(3:Int)∧(3:Int)<((4:Nat):Int))∧
        ∃v35:Int,aD a (adr ⟨b,0,none⟩ ((3:Int).toNat*1))=some (.int .u64 v35)∧
        Bd (ac .u64 (aq (ag .u64) e^^^aq (ag .u64) v35).toNat:Int) (fun d=>
         K d))))))):=by
 have c:∀{i:Nat},aD a ⟨b,0+i,none⟩=(q4 r)[i]?:=by intro i;rw[aP];exact aW f
 exact⟨by decide,_,c (i:=0),by decide,_,c (i:=1),by decide,_,c (i:=2),by decide,_,c (i:=3),g⟩
theorem Xc{a:ad}{b:Nat}{t:TypeId}{q:Q4}(f:a[b]? =some (.cells (q4 q) t (0,0))) {K:Unit→ad→Prop}
  (o:∀h',h'[b]? =some (.cells (q4 (pk 4 (q.1,q.2.1,gl q.2.2.1 255,q.2.2.2))) t (0,0))→Upd (· =b) a h'→K () h'):
  (((0:Int)≤(2:Int)∧(2:Int)<((4:Nat):Int))∧
   ∃v25:Int,aD a (adr ⟨b,0,none⟩ ((2:Int).toNat*1))=some (.int .u64 v25)∧
   Bd (ac .u64 (aq (ag .u64) v25^^^aq (ag .u64) 255).toNat:Int) (fun g=>
    (((0:Int)≤(2:Int)∧(2:Int)<((4:Nat):Int))∧
     (Wr a (adr ⟨b,0,none⟩ ((2:Int).toNat*1))∧
      At (hset a (adr ⟨b,0,none⟩ ((2:Int).toNat*1)) (.int .u64 g)) (fun e=>
       HC PG jf [.pointer (some ⟨b,0,none⟩),.int .i64 4] [] K e))))):=by
 have c:∀{i:Nat},aD a ⟨b,0+i,none⟩=(q4 q)[i]?:=by intro i;rw[aP];exact aW f
 refine⟨by decide,_,c (i:=2),by decide,by rw[show((2:Int)).toNat*1=2 from rfl,ce];exact iM f (by simp[q4]),?_⟩
 refine qg (s':=(q.1,q.2.1,gl q.2.2.1 255,q.2.2.2)) f rfl fun s j m=>?_
 exact Jk (n:=4) (by omega) j fun p k d=>o p k (m.tr d)
theorem bi{h:ad}{k:ad→Prop}(a:k h):At h k:=a
theorem XZ{k0 k1:Int}{s:ByteArray}{h:ad}{K:Int→ad→Prop}(B:∀h',Upd No h h'→K (Ww k0 k1 s) h'):HC PG D5 [.agg #[.int .u64 k0,.int .u64 k1],.string s] [.c (.int .u64)] K h:=by
 refine To (k0,k1) s ?_;unfold Km bf cU nv bM vS ae pf YZ YE YL;have u:=Upd.hnew No h [.int .u64 k0,.int .u64 k1] vV;have b1:=bF h [.int .u64 k0,.int .u64 k1] vV;have E:=eN h [.int .u64 k0,.int .u64 k1] vV;refine bi ?_;simp only[df h];generalize hnew h [.int .u64 k0,.int .u64 k1] vV=h1 at u b1 E;refine⟨k0,by rw[ce,aW b1];rfl,k1,by rw[ce,aW b1];rfl,k0,by rw[ce,aW b1];rfl,k1,by rw[ce,aW b1];rfl,?_⟩
 have N:=Upd.hnew No h1 [.int .u64 0,.int .u64 0,.int .u64 0,.int .u64 0] jI;have b2:=bF h1 [.int .u64 0,.int .u64 0,.int .u64 0,.int .u64 0] jI;simp only[df h1];simp only[Bd];refine bi ?_;refine⟨.inr ⟨_,rfl,fun j G=>by rw[ce];exact iM b2 (by simp at G⊢;omega)⟩,?_⟩
 refine bi ?_;rw[jA _ _ 0 0 _ b2 (by simp)];have b3:=jo (o:=.cells (q4 (gl k0 8317987319222330741,gl k1 7237128888997146477,gl k0 7816392313619706465,gl k1 8387220255154660723)) jI (0,0)) b2;have L:Upd No h _:=u.tr (N.trans (M':=(· =h1.size)) (Upd.set (hnew h1 [.int .u64 0,.int .u64 0,.int .u64 0,.int .u64 0] jI) (.cells (q4 (gl k0 8317987319222330741,gl k1 7237128888997146477,gl k0 7816392313619706465,gl k1 8387220255154660723)) jI (0,0)) rfl) fun b a=>.inr (Nat.le_of_eq a.symm))
 refine LoopP.ghost (fun(g:Nat×Q4) (d:ByteArray) h'=>d.size≤g.1∧h'[h1.size]? =some (.cells (q4 g.2) jI (0,0))∧Upd No h h'∧Gt g.1 d g.2=Gt s.size s (gl k0 8317987319222330741,gl k1 7237128888997146477,gl k0 7816392313619706465,gl k1 8387220255154660723)) (fun g=>g.1) (s.size,_)
  ⟨au _,b3,L,rfl⟩ ?_
 rintro I ⟨n,q⟩ d h' ⟨F,a,A,t⟩ J;simp only at F a t;have k:∀b,b=h1.size→No b∨h.size≤b:=fun b a=>.inr (by omega)
 refine aF (fun p=>?_) fun y=>?_
 ·have p:8≤d.size:=by omega
  cases n with
  |zero=>omega
  |succ n=>
   refine⟨by omega,QX (by rw[pP];show min 8 _-0≤8;omega) (Q7 a fun H e f=>⟨by omega,?_⟩)⟩
   have D:((8:Int)).toNat=8:=rfl;rw[D]at e⊢;refine J (n,Gq (Er (d.extract 0 8)) q) _ _ ⟨by simp only[pP];omega,e,A.trans f k,?_⟩ (by simp only;omega);rw[←t];simp only[Gt,if_pos p]
 ·have y:d.size<8:=by omega
  have t:(d,q)=Gt s.size s (gl k0 8317987319222330741,gl k1 7237128888997146477,gl k0 7816392313619706465,gl k1 8387220255154660723):=by
   rw[←t];cases n with
   |zero=>rfl
   |succ n=>simp only[Gt,if_neg (show ¬8≤d.size by omega)]
  have c:∀{h:ad} {s:Q4} {i:Nat},h[h1.size]? =some (.cells (q4 s) jI (0,0))→aD h ⟨h1.size,0+i,none⟩=(q4 s)[i]?:=fun a=>by rw[aP];exact aW a
  have w:∀{h:ad} {s:Q4} {i:Nat},h[h1.size]? =some (.cells (q4 s) jI (0,0))→i<4→Wr h ⟨h1.size,0+i,none⟩:=fun a hi=>by rw[aP];exact iM a hi
  have z:Ww k0 k1 s=Zr (Gq (UL (Er d) (ZD (s.size:Int) 56)) q):=by unfold Ww;rw[←t];rfl
  rw[z]at B;refine QX (by omega) ⟨by decide,Q7 (m:=UL (Er d) (ZD (s.size:Int) 56)) a fun H e f=>?_⟩
  refine Xc e fun C v x=>Xd (K:=fun n=>K n C) v ?_
  exact B C ((A.trans f k).trans x k)
structure Hs where
 k0:Int
 k1:Int
 mask:Int
def jL(h:Hs)(s:ByteArray):Int:=VR (Ww h.k0 h.k1 s) h.mask
theorem Cu{x:Hs}{s:ByteArray}{h:ad}{K:Int→ad→Prop}(c:∀h',Upd No h h'→K (jL x s) h'):HC PG gc [.agg #[.int .u64 x.k0,.int .u64 x.k1,.int .u64 x.mask],.string s] [.c (.int .u64)] K h:=by
 refine CR (x.k0,x.k1,x.mask) s ?_;unfold uL ae Ac hG YP;have a:=Upd.hnew No h [.int .u64 x.k0,.int .u64 x.k1,.int .u64 x.mask] eJ;have b1:=bF h [.int .u64 x.k0,.int .u64 x.k1,.int .u64 x.mask] eJ;simp only[At,df h];generalize hnew h [.int .u64 x.k0,.int .u64 x.k1,.int .u64 x.mask] eJ=h1 at a b1;refine⟨x.k0,by rw[ce,ce,aW b1];rfl,x.k1,by rw[ce,ce,aW b1];rfl,x.mask,by rw[ce,aW b1];rfl,?_⟩
 refine XZ fun d b=>⟨by rw[ce,aW (b.get0 b1)];rfl,c _ (a.tr b)⟩
theorem NC(x:Hs)(s:ByteArray):0≤jL x s∧jL x s<18446744073709551616:=O4 _
end Go.Proofs
namespace Go.Proofs
open Go Go.Lift
abbrev jz(x:ByteArray×ByteArray):List Value:= [.string x.1,.string x.2]
theorem gy(x:ByteArray×ByteArray):(jz x).length=2∧0<2:=⟨rfl,by omega⟩
theorem zK:∀xs:List (ByteArray×ByteArray),cu (xs.flatMap jz)=true
 | []=>rfl
 |x::xs=>by rw[bH];exact mQ rfl (zK xs)
theorem K3{h:ad}{a b o d f e c:Nat}{i cw:Array Value}{k tb:TypeId}(g:h[a]? =some (.cells i k (0,0))) (n:h[b]? =some (.cells cw tb (0,0))) (m:a≠b) (p:cw.size≠0) {K:Bool→ad→Prop} (q:K false h):
  HC PG iS [.slice (some ⟨a,0,none⟩) d f,.slice (some ⟨b,o,none⟩) e c] [.c .bool] K h:=by
 refine⟨fun w j=>.inr ⟨.bool false,w,?_,Tame.refl w,false,rfl,j▸q⟩⟩
 subst j;rw[sL];have:=Lib.run_overlaps_apart (P:=PG) w gV yh az (by kernel_rfl) (cd PG az) (qU (by kernel_rfl)) ⟨a,0,none⟩ ⟨b,o,none⟩ d f e c m k tb i.size cw.size
  (by simp[World.shape?,g]) (by simp[World.shape?,n]) p (by simp[World.frozen?,g]) (by simp[World.frozen?,g])
 rw[show([Value.slice (some ⟨a,0,none⟩) d f,Value.slice (some ⟨b,o,none⟩) e c]:List Value).toArray= #[.slice (some ⟨a,0,none⟩) d f,.slice (some ⟨b,o,none⟩) e c]from rfl,this]
 rfl
set_option maxRecDepth 4000 in
theorem P0{M:Nat→Prop}{h:ad}{s:SliceV}{xs:List (ByteArray×ByteArray)}(U:OwnS jz 2 az M h s xs){k:Nat}(hkl:k≤xs.length)(hn:(xs.length+1)*32≤140737488355328){x:ByteArray×ByteArray}{m:Nat}(E:h[m]? =some (.cells (jz x).toArray az (0,0)))
  (W:¬M m) (hM:∀b,h.size≤b→M b) {K:SliceV→ad→Prop} (hK:∀s' h',OwnS jz 2 az M h' s' (xs.take k++x::xs.drop k)→Upd M h h'→K s' h'):
  HC PG cV [.slice s.a s.len s.cap,.int .i64 k,.slice (some ⟨m,0,none⟩) 1 1] [.c .slice] K h:=by
 refine m8 s k ⟨some ⟨m,0,none⟩,1,1⟩ ?_;unfold ir iA;have u:=U.len;have hcap:=U.cap;have I:SRow h (some ⟨m,0,none⟩) (1*2) (jz x):=⟨rfl,.inr ⟨_,rfl,pj E fun i v hi=>by simpa using hi⟩⟩
 refine⟨by omega,af.2 ?_⟩;refine CondP.intro (fun e=>?_) fun e=>?_
 ·have e:k=xs.length:=by have:=of_decide_eq_true (by simpa using e:decide ((k:Int)=(s.len:Int))=true);omega
  subst e;refine⟨_,I,AppP.own (ys:= [x]) U rfl (by simp) rfl rfl (by omega) (by simp;omega) (hM _ (au _)) fun s' h' ho hu=>hK s' h' ?_ hu⟩
  rw[bG,List.drop_length];exact ho
 have hlt:k<xs.length:=by
  rcases cC k xs.length with h|h
  ·exact h
  ·have:((k:Int)==(s.len:Int))=true:=by rw[beq_iff_eq];omega
   rw[this]at e;cases e
 rcases U.blk with h0|⟨b,d,ha,n,hc,hr⟩
 ·omega
 have g:((xs.take k).flatMap jz).length=k*2:=by rw[jU gy,aY,bR hkl]
 have t:((xs.drop k).flatMap jz).length=(xs.length-k)*2:=by rw[jU gy,aS]
 have G:m≠b:=fun e=>W (e▸n)
 rw[yY (f:=jz) xs k]at hc;have a:(xs.take k++x::xs.drop k).flatMap jz=(xs.take k).flatMap jz++(jz x++(xs.drop k).flatMap jz):=by rw[bW,bH]
 have j:=zK (xs.drop k);have c:(jz x).length=2:=rfl;have C:cu (jz x)=true:=rfl;generalize hAe:(xs.take k).flatMap jz=A at g hc a;generalize hBe:(xs.drop k).flatMap jz=B at t hc a j;generalize jz x=X at I c E a C;rw[ha];have w1:ac .i64 ((xs.length:Int)+((1:Nat):Int))=((xs.length+1:Nat):Int):=by rw[kD (by omega)];omega
 have w2:ac .i64 ((k:Int)+((1:Nat):Int))=((k+1:Nat):Int):=by rw[kD (by omega)];omega
 have w3:ac .i64 (((xs.length+1:Nat):Int)-(k:Int))=((xs.length+1-k:Nat):Int):=by rw[kD (by omega)];omega
 simp only[w1,w2,w3,ak,u];refine aF (fun hgt=>?_) fun hle=>?_
 ·
  have L:s.cap=xs.length:=by omega
  refine Join.plain ⟨by omega,⟨by omega,by omega,by omega,by omega⟩,fun hin=>?_,fun H=>?_⟩
  ·omega
  ·refine⟨A,_,?_,rfl,by omega,Go.growslice_fits H (by omega),fun D z=>?_⟩
   ·rw[sub_zero]
    exact lH hc (by rw[g];omega) (by simp only[fM,eK];rw[aK,←g,fG (au _),bG])
   ·simp only[ak]at z⊢
    have T:=Upd.hnew No h (A++du (xs.length+1-k) [.string (⟨#[]⟩:ByteArray),.string (⟨#[]⟩:ByteArray)]++du (D-(k-0+(xs.length+1-k))) [.string (⟨#[]⟩:ByteArray),.string (⟨#[]⟩:ByteArray)]) az;have bn:=bF h (A++du (xs.length+1-k) [.string (⟨#[]⟩:ByteArray),.string (⟨#[]⟩:ByteArray)]++du (D-(k-0+(xs.length+1-k))) [.string (⟨#[]⟩:ByteArray),.string (⟨#[]⟩:ByteArray)]) az
    have y:(du (xs.length+1-k) [.string (⟨#[]⟩:ByteArray),.string (⟨#[]⟩:ByteArray)]).length=(xs.length+1-k)*2:=md _ _;have hz2:(du (D-(k-0+(xs.length+1-k))) [.string (⟨#[]⟩:ByteArray),.string (⟨#[]⟩:ByteArray)]).length=(D-(k-0+(xs.length+1-k)))*2:=md _ _;have p:k-0+(xs.length+1-k)=xs.length+1:=by omega
    rw[df];have hsz:h.size≠m:=fun e=>by have:=bB E;omega
    have S:h.size≠b:=fun e=>by have:=bB hc;omega
    have J:=T.get0 hc;have Q:=T.get0 E;generalize hnew h _ az=h9 at T bn J Q;rw[p]at z hz2⊢;have m1:dN 1 (xs.length+1-k)=1:=bR (by omega);have m2:dN (xs.length-k) (xs.length+1-(k+1))=xs.length-k:=bR (by omega);rw[m1];have xr9:SRow h9 (some ⟨m,0,none⟩) (1*2) X:=lH Q (by rw[c]) (by rw[fM,bD];rw[c];omega)
    refine⟨by omega,?_⟩;rw[jw (by omega)];refine lq xr9 C bn (by simp only[ai,g,y];omega) fun h11 O o=>⟨by omega,?_⟩
    simp only[Bd];rw[jw (by omega),jw (by omega),m2];refine⟨by omega,?_⟩;have w:=o.get J (fun e=>S e.symm)
    have br:SRow h11 (some ⟨b,0+k*2,none⟩) ((xs.length-k)*2) B:=lH w t (by
     rw[aP,aK,←g,jl,←t,kr])
    refine lq br j O ?_ fun h16 N F=>?_
    ·simp only[ai,aY,aS,g,y,c];omega
    ·refine hK _ _ ⟨by simp;omega,gy,z,.inr ⟨h.size,du (D-(xs.length+1)) [.string (⟨#[]⟩:ByteArray),.string (⟨#[]⟩:ByteArray)],rfl,hM _ (au _),?_,by rw[md];rfl⟩⟩ ((T.wide.trans (M':=(· =h.size)) o fun b n=>.inl (n▸hM _ (au _))).trans (M':=(· =h.size)) F fun b n=>.inl (n▸hM _ (au _)))
     rw[N,a];have:=Lc (A:=A) (X:=X) (B:=B) (Z1:=du (xs.length+1-k) [.string (⟨#[]⟩:ByteArray),.string (⟨#[]⟩:ByteArray)]) (Z2:=du (D-(xs.length+1)) [.string (⟨#[]⟩:ByteArray),.string (⟨#[]⟩:ByteArray)]) (r:=(xs.length-k)*2) g c (by rw[y,←gv];congr 1;omega);rw[p,←this];simp only[aP,gv,rB]
 ·have L:xs.length+1≤s.cap:=by omega
  refine⟨by omega,?_⟩;simp only[Bd,eK];rw[sub_zero,jw (show s.cap≠k+1 by omega),jw (show s.cap≠k by omega)]
  refine⟨by omega,?_⟩;have V:2≤d.length:=by rw[hr];exact pM _ (by omega)
  refine K3 E hc G (by rw[cP,ai];omega) ?_;refine aA.2 ⟨by omega,by omega,?_⟩
  have m1:dN 1 (xs.length+1-k)=1:=bR (by omega);have m2:dN (xs.length+1-k) (xs.length+1-(k+1))=xs.length-k:=by
   rw[show xs.length+1-(k+1)=xs.length-k by omega];exact qx (by omega)
  rw[m2];have br:SRow h (some ⟨b,0+k*2,none⟩) ((xs.length-k)*2) B:=lH hc t (by
   rw[aP,aK,←g,jl,←t,kr])
  refine lq br j hc (by simp only[ai,g,t];omega) fun h1 Z P=>⟨by omega,?_⟩
  rw[m1];have xr1:SRow h1 (some ⟨m,0,none⟩) (1*2) X:=lH (P.get E G) (by rw[c]) (by rw[fM,bD];rw[c];omega);refine lq xr1 C Z (by simp only[ai,aY,aS,g,t];omega) fun h2 hb2 Y=>?_
  refine hK _ _ ⟨by simp;omega,gy,L,.inr ⟨b,d.drop 2,rfl,n,?_,?_⟩⟩ ((P.mono fun _ e=>.inl (e▸n)).tr (Y.mono fun _ e=>.inl (e▸n)))
  ·rw[hb2,a]
   have:=P2 (A:=A) (X:=X) (B:=B) (R:=d) (q:=2) (r:=(xs.length-k)*2) g t V;rw[←this];simp only[aP,gv,rB]
  ·rw[aS,hr]
   simp only;rw[u];omega
abbrev uk(x:Option Addr):List Value:= [.pointer x]
theorem ta(x:Option Addr):(uk x).length=1∧0<1:=⟨rfl,by omega⟩
theorem FQ:∀xs:List (Option Addr),cu (xs.flatMap uk)=true
 | []=>rfl
 |x::xs=>by rw[bH];exact mQ rfl (FQ xs)
theorem K4{h:ad}{a b o d f e c:Nat}{i cw:Array Value}{k tb:TypeId}(g:h[a]? =some (.cells i k (0,0))) (n:h[b]? =some (.cells cw tb (0,0))) (m:a≠b) (p:cw.size≠0) {K:Bool→ad→Prop} (q:K false h):
  HC PG ic [.slice (some ⟨a,0,none⟩) d f,.slice (some ⟨b,o,none⟩) e c] [.c .bool] K h:=by
 refine⟨fun w j=>.inr ⟨.bool false,w,?_,Tame.refl w,false,rfl,j▸q⟩⟩
 subst j;rw[ri];have:=Lib.run_overlaps_apart (P:=PG) w rF yh bO (by kernel_rfl) (cd PG bO) (qU (by kernel_rfl)) ⟨a,0,none⟩ ⟨b,o,none⟩ d f e c m k tb i.size cw.size
  (by simp[World.shape?,g]) (by simp[World.shape?,n]) p (by simp[World.frozen?,g]) (by simp[World.frozen?,g])
 rw[show([Value.slice (some ⟨a,0,none⟩) d f,Value.slice (some ⟨b,o,none⟩) e c]:List Value).toArray= #[.slice (some ⟨a,0,none⟩) d f,.slice (some ⟨b,o,none⟩) e c]from rfl,this]
 rfl
set_option maxRecDepth 4000 in
theorem P1{M:Nat→Prop}{h:ad}{s:SliceV}{xs:List (Option Addr)}(U:OwnS uk 1 bO M h s xs){k:Nat}(hkl:k≤xs.length)(hn:(xs.length+1)*8≤140737488355328){x:Option Addr}{m:Nat}(E:h[m]? =some (.cells (uk x).toArray bO (0,0)))
  (W:¬M m) (hM:∀b,h.size≤b→M b) {K:SliceV→ad→Prop} (hK:∀s' h',OwnS uk 1 bO M h' s' (xs.take k++x::xs.drop k)→Upd M h h'→K s' h'):
  HC PG cK [.slice s.a s.len s.cap,.int .i64 k,.slice (some ⟨m,0,none⟩) 1 1] [.c .slice] K h:=by
 refine lr s k ⟨some ⟨m,0,none⟩,1,1⟩ ?_;unfold gt;have u:=U.len;have hcap:=U.cap;have I:SRow h (some ⟨m,0,none⟩) (1*1) (uk x):=⟨rfl,.inr ⟨_,rfl,pj E fun i v hi=>by simpa using hi⟩⟩
 refine⟨by omega,af.2 ?_⟩;refine CondP.intro (fun e=>?_) fun e=>?_
 ·have e:k=xs.length:=by have:=of_decide_eq_true (by simpa using e:decide ((k:Int)=(s.len:Int))=true);omega
  subst e;refine⟨_,I,AppP.own (ys:= [x]) U rfl (by simp) rfl rfl (by omega) (by simp;omega) (hM _ (au _)) fun s' h' ho hu=>hK s' h' ?_ hu⟩
  rw[bG,List.drop_length];exact ho
 have hlt:k<xs.length:=by
  rcases cC k xs.length with h|h
  ·exact h
  ·have:((k:Int)==(s.len:Int))=true:=by rw[beq_iff_eq];omega
   rw[this]at e;cases e
 rcases U.blk with h0|⟨b,d,ha,n,hc,hr⟩
 ·omega
 have g:((xs.take k).flatMap uk).length=k*1:=by rw[jU ta,aY,bR hkl]
 have t:((xs.drop k).flatMap uk).length=(xs.length-k)*1:=by rw[jU ta,aS]
 have G:m≠b:=fun e=>W (e▸n)
 rw[yY (f:=uk) xs k]at hc;have a:(xs.take k++x::xs.drop k).flatMap uk=(xs.take k).flatMap uk++(uk x++(xs.drop k).flatMap uk):=by rw[bW,bH]
 have j:=FQ (xs.drop k);have c:(uk x).length=1:=rfl;have C:cu (uk x)=true:=rfl;generalize hAe:(xs.take k).flatMap uk=A at g hc a;generalize hBe:(xs.drop k).flatMap uk=B at t hc a j;generalize uk x=X at I c E a C;rw[ha];have w1:ac .i64 ((xs.length:Int)+((1:Nat):Int))=((xs.length+1:Nat):Int):=by rw[kD (by omega)];omega
 have w2:ac .i64 ((k:Int)+((1:Nat):Int))=((k+1:Nat):Int):=by rw[kD (by omega)];omega
 have w3:ac .i64 (((xs.length+1:Nat):Int)-(k:Int))=((xs.length+1-k:Nat):Int):=by rw[kD (by omega)];omega
 simp only[w1,w2,w3,ak,u];refine aF (fun hgt=>?_) fun hle=>?_
 ·
  have L:s.cap=xs.length:=by omega
  refine Join.plain ⟨by omega,⟨by omega,by omega,by omega,by omega⟩,fun hin=>?_,fun H=>?_⟩
  ·omega
  ·refine⟨A,_,?_,rfl,by omega,Go.growslice_fits H (by omega),fun D z=>?_⟩
   ·rw[sub_zero]
    exact lH hc (by rw[g];omega) (by simp only[fM,eK];rw[aK,←g,fG (au _),bG])
   ·simp only[ak]at z⊢
    have T:=Upd.hnew No h (A++du (xs.length+1-k) [.pointer none]++du (D-(k-0+(xs.length+1-k))) [.pointer none]) bO;have bn:=bF h (A++du (xs.length+1-k) [.pointer none]++du (D-(k-0+(xs.length+1-k))) [.pointer none]) bO;have y:(du (xs.length+1-k) [.pointer none]).length=(xs.length+1-k)*1:=md _ _;have hz2:(du (D-(k-0+(xs.length+1-k))) [.pointer none]).length=(D-(k-0+(xs.length+1-k)))*1:=md _ _
    have p:k-0+(xs.length+1-k)=xs.length+1:=by omega
    rw[df];have hsz:h.size≠m:=fun e=>by have:=bB E;omega
    have S:h.size≠b:=fun e=>by have:=bB hc;omega
    have J:=T.get0 hc;have Q:=T.get0 E;generalize hnew h _ bO=h9 at T bn J Q;rw[p]at z hz2⊢;have m1:dN 1 (xs.length+1-k)=1:=bR (by omega);have m2:dN (xs.length-k) (xs.length+1-(k+1))=xs.length-k:=bR (by omega);rw[m1];have xr9:SRow h9 (some ⟨m,0,none⟩) (1*1) X:=lH Q (by rw[c]) (by rw[fM,bD];rw[c];omega)
    refine⟨by omega,?_⟩;rw[jw (by omega)];refine lq xr9 C bn (by simp only[ai,g,y];omega) fun h11 O o=>⟨by omega,?_⟩
    simp only[Bd];rw[jw (by omega),jw (by omega),m2];refine⟨by omega,?_⟩;have w:=o.get J (fun e=>S e.symm)
    have br:SRow h11 (some ⟨b,0+k*1,none⟩) ((xs.length-k)*1) B:=lH w t (by
     rw[aP,aK,←g,jl,←t,kr])
    refine lq br j O ?_ fun h16 N F=>?_
    ·simp only[ai,aY,aS,g,y,c];omega
    ·refine hK _ _ ⟨by simp;omega,ta,z,.inr ⟨h.size,du (D-(xs.length+1)) [.pointer none],rfl,hM _ (au _),?_,by rw[md];rfl⟩⟩ ((T.wide.trans (M':=(· =h.size)) o fun b n=>.inl (n▸hM _ (au _))).trans (M':=(· =h.size)) F fun b n=>.inl (n▸hM _ (au _)))
     rw[N,a];have:=Lc (A:=A) (X:=X) (B:=B) (Z1:=du (xs.length+1-k) [.pointer none]) (Z2:=du (D-(xs.length+1)) [.pointer none]) (r:=(xs.length-k)*1) g c (by rw[y,←gv];congr 1;omega);rw[p,←this];simp only[aP,gv,rB]
 ·have L:xs.length+1≤s.cap:=by omega
  refine⟨by omega,?_⟩;simp only[Bd,eK];rw[sub_zero,jw (show s.cap≠k+1 by omega),jw (show s.cap≠k by omega)]
  refine⟨by omega,?_⟩;have V:1≤d.length:=by rw[hr];exact pM _ (by omega)
  refine K4 E hc G (by rw[cP,ai];omega) ?_;refine aA.2 ⟨by omega,by omega,?_⟩
  have m1:dN 1 (xs.length+1-k)=1:=bR (by omega);have m2:dN (xs.length+1-k) (xs.length+1-(k+1))=xs.length-k:=by
   rw[show xs.length+1-(k+1)=xs.length-k by omega];exact qx (by omega)
  rw[m2];have br:SRow h (some ⟨b,0+k*1,none⟩) ((xs.length-k)*1) B:=lH hc t (by
   rw[aP,aK,←g,jl,←t,kr])
  refine lq br j hc (by simp only[ai,g,t];omega) fun h1 Z P=>⟨by omega,?_⟩
  rw[m1];have xr1:SRow h1 (some ⟨m,0,none⟩) (1*1) X:=lH (P.get E G) (by rw[c]) (by rw[fM,bD];rw[c];omega);refine lq xr1 C Z (by simp only[ai,aY,aS,g,t];omega) fun h2 hb2 Y=>?_
  refine hK _ _ ⟨by simp;omega,ta,L,.inr ⟨b,d.drop 1,rfl,n,?_,?_⟩⟩ ((P.mono fun _ e=>.inl (e▸n)).tr (Y.mono fun _ e=>.inl (e▸n)))
  ·rw[hb2,a]
   have:=P2 (A:=A) (X:=X) (B:=B) (R:=d) (q:=1) (r:=(xs.length-k)*1) g t V;rw[←this];simp only[aP,gv,rB]
  ·rw[aS,hr]
   simp only;rw[u];omega
abbrev wN(x:Option Addr):List Value:= [.pointer x]
theorem pi(x:Option Addr):(wN x).length=1∧0<1:=⟨rfl,by omega⟩
theorem FP:∀xs:List (Option Addr),cu (xs.flatMap wN)=true
 | []=>rfl
 |x::xs=>by rw[bH];exact mQ rfl (FP xs)
theorem K2{h:ad}{a b o d f e c:Nat}{i cw:Array Value}{k tb:TypeId}(g:h[a]? =some (.cells i k (0,0))) (n:h[b]? =some (.cells cw tb (0,0))) (m:a≠b) (p:cw.size≠0) {K:Bool→ad→Prop} (q:K false h):
  HC PG gN [.slice (some ⟨a,0,none⟩) d f,.slice (some ⟨b,o,none⟩) e c] [.c .bool] K h:=by
 refine⟨fun w j=>.inr ⟨.bool false,w,?_,Tame.refl w,false,rfl,j▸q⟩⟩
 subst j;rw[qs];have:=Lib.run_overlaps_apart (P:=PG) w qd yh bI (by kernel_rfl) (cd PG bI) (qU (by kernel_rfl)) ⟨a,0,none⟩ ⟨b,o,none⟩ d f e c m k tb i.size cw.size
  (by simp[World.shape?,g]) (by simp[World.shape?,n]) p (by simp[World.frozen?,g]) (by simp[World.frozen?,g])
 rw[show([Value.slice (some ⟨a,0,none⟩) d f,Value.slice (some ⟨b,o,none⟩) e c]:List Value).toArray= #[.slice (some ⟨a,0,none⟩) d f,.slice (some ⟨b,o,none⟩) e c]from rfl,this]
 rfl
set_option maxRecDepth 4000 in
theorem PZ{M:Nat→Prop}{h:ad}{s:SliceV}{xs:List (Option Addr)}(U:OwnS wN 1 bI M h s xs){k:Nat}(hkl:k≤xs.length)(hn:(xs.length+1)*8≤140737488355328){x:Option Addr}{m:Nat}(E:h[m]? =some (.cells (wN x).toArray bI (0,0)))
  (W:¬M m) (hM:∀b,h.size≤b→M b) {K:SliceV→ad→Prop} (hK:∀s' h',OwnS wN 1 bI M h' s' (xs.take k++x::xs.drop k)→Upd M h h'→K s' h'):
  HC PG dY [.slice s.a s.len s.cap,.int .i64 k,.slice (some ⟨m,0,none⟩) 1 1] [.c .slice] K h:=by
 refine kE s k ⟨some ⟨m,0,none⟩,1,1⟩ ?_;unfold f0;have u:=U.len;have hcap:=U.cap;have I:SRow h (some ⟨m,0,none⟩) (1*1) (wN x):=⟨rfl,.inr ⟨_,rfl,pj E fun i v hi=>by simpa using hi⟩⟩
 refine⟨by omega,af.2 ?_⟩;refine CondP.intro (fun e=>?_) fun e=>?_
 ·have e:k=xs.length:=by have:=of_decide_eq_true (by simpa using e:decide ((k:Int)=(s.len:Int))=true);omega
  subst e;refine⟨_,I,AppP.own (ys:= [x]) U rfl (by simp) rfl rfl (by omega) (by simp;omega) (hM _ (au _)) fun s' h' ho hu=>hK s' h' ?_ hu⟩
  rw[bG,List.drop_length];exact ho
 have hlt:k<xs.length:=by
  rcases cC k xs.length with h|h
  ·exact h
  ·have:((k:Int)==(s.len:Int))=true:=by rw[beq_iff_eq];omega
   rw[this]at e;cases e
 rcases U.blk with h0|⟨b,d,ha,n,hc,hr⟩
 ·omega
 have g:((xs.take k).flatMap wN).length=k*1:=by rw[jU pi,aY,bR hkl]
 have t:((xs.drop k).flatMap wN).length=(xs.length-k)*1:=by rw[jU pi,aS]
 have G:m≠b:=fun e=>W (e▸n)
 rw[yY (f:=wN) xs k]at hc;have a:(xs.take k++x::xs.drop k).flatMap wN=(xs.take k).flatMap wN++(wN x++(xs.drop k).flatMap wN):=by rw[bW,bH]
 have j:=FP (xs.drop k);have c:(wN x).length=1:=rfl;have C:cu (wN x)=true:=rfl;generalize hAe:(xs.take k).flatMap wN=A at g hc a;generalize hBe:(xs.drop k).flatMap wN=B at t hc a j;generalize wN x=X at I c E a C;rw[ha];have w1:ac .i64 ((xs.length:Int)+((1:Nat):Int))=((xs.length+1:Nat):Int):=by rw[kD (by omega)];omega
 have w2:ac .i64 ((k:Int)+((1:Nat):Int))=((k+1:Nat):Int):=by rw[kD (by omega)];omega
 have w3:ac .i64 (((xs.length+1:Nat):Int)-(k:Int))=((xs.length+1-k:Nat):Int):=by rw[kD (by omega)];omega
 simp only[w1,w2,w3,ak,u];refine aF (fun hgt=>?_) fun hle=>?_
 ·
  have L:s.cap=xs.length:=by omega
  refine Join.plain ⟨by omega,⟨by omega,by omega,by omega,by omega⟩,fun hin=>?_,fun H=>?_⟩
  ·omega
  ·refine⟨A,_,?_,rfl,by omega,Go.growslice_fits H (by omega),fun D z=>?_⟩
   ·rw[sub_zero]
    exact lH hc (by rw[g];omega) (by simp only[fM,eK];rw[aK,←g,fG (au _),bG])
   ·simp only[ak]at z⊢
    have T:=Upd.hnew No h (A++du (xs.length+1-k) [.pointer none]++du (D-(k-0+(xs.length+1-k))) [.pointer none]) bI;have bn:=bF h (A++du (xs.length+1-k) [.pointer none]++du (D-(k-0+(xs.length+1-k))) [.pointer none]) bI;have y:(du (xs.length+1-k) [.pointer none]).length=(xs.length+1-k)*1:=md _ _;have hz2:(du (D-(k-0+(xs.length+1-k))) [.pointer none]).length=(D-(k-0+(xs.length+1-k)))*1:=md _ _
    have p:k-0+(xs.length+1-k)=xs.length+1:=by omega
    rw[df];have hsz:h.size≠m:=fun e=>by have:=bB E;omega
    have S:h.size≠b:=fun e=>by have:=bB hc;omega
    have J:=T.get0 hc;have Q:=T.get0 E;generalize hnew h _ bI=h9 at T bn J Q;rw[p]at z hz2⊢;have m1:dN 1 (xs.length+1-k)=1:=bR (by omega);have m2:dN (xs.length-k) (xs.length+1-(k+1))=xs.length-k:=bR (by omega);rw[m1];have xr9:SRow h9 (some ⟨m,0,none⟩) (1*1) X:=lH Q (by rw[c]) (by rw[fM,bD];rw[c];omega)
    refine⟨by omega,?_⟩;rw[jw (by omega)];refine lq xr9 C bn (by simp only[ai,g,y];omega) fun h11 O o=>⟨by omega,?_⟩
    simp only[Bd];rw[jw (by omega),jw (by omega),m2];refine⟨by omega,?_⟩;have w:=o.get J (fun e=>S e.symm)
    have br:SRow h11 (some ⟨b,0+k*1,none⟩) ((xs.length-k)*1) B:=lH w t (by
     rw[aP,aK,←g,jl,←t,kr])
    refine lq br j O ?_ fun h16 N F=>?_
    ·simp only[ai,aY,aS,g,y,c];omega
    ·refine hK _ _ ⟨by simp;omega,pi,z,.inr ⟨h.size,du (D-(xs.length+1)) [.pointer none],rfl,hM _ (au _),?_,by rw[md];rfl⟩⟩ ((T.wide.trans (M':=(· =h.size)) o fun b n=>.inl (n▸hM _ (au _))).trans (M':=(· =h.size)) F fun b n=>.inl (n▸hM _ (au _)))
     rw[N,a];have:=Lc (A:=A) (X:=X) (B:=B) (Z1:=du (xs.length+1-k) [.pointer none]) (Z2:=du (D-(xs.length+1)) [.pointer none]) (r:=(xs.length-k)*1) g c (by rw[y,←gv];congr 1;omega);rw[p,←this];simp only[aP,gv,rB]
 ·have L:xs.length+1≤s.cap:=by omega
  refine⟨by omega,?_⟩;simp only[Bd,eK];rw[sub_zero,jw (show s.cap≠k+1 by omega),jw (show s.cap≠k by omega)]
  refine⟨by omega,?_⟩;have V:1≤d.length:=by rw[hr];exact pM _ (by omega)
  refine K2 E hc G (by rw[cP,ai];omega) ?_;refine aA.2 ⟨by omega,by omega,?_⟩
  have m1:dN 1 (xs.length+1-k)=1:=bR (by omega);have m2:dN (xs.length+1-k) (xs.length+1-(k+1))=xs.length-k:=by
   rw[show xs.length+1-(k+1)=xs.length-k by omega];exact qx (by omega)
  rw[m2];have br:SRow h (some ⟨b,0+k*1,none⟩) ((xs.length-k)*1) B:=lH hc t (by
   rw[aP,aK,←g,jl,←t,kr])
  refine lq br j hc (by simp only[ai,g,t];omega) fun h1 Z P=>⟨by omega,?_⟩
  rw[m1];have xr1:SRow h1 (some ⟨m,0,none⟩) (1*1) X:=lH (P.get E G) (by rw[c]) (by rw[fM,bD];rw[c];omega);refine lq xr1 C Z (by simp only[ai,aY,aS,g,t];omega) fun h2 hb2 Y=>?_
  refine hK _ _ ⟨by simp;omega,pi,L,.inr ⟨b,d.drop 1,rfl,n,?_,?_⟩⟩ ((P.mono fun _ e=>.inl (e▸n)).tr (Y.mono fun _ e=>.inl (e▸n)))
  ·rw[hb2,a]
   have:=P2 (A:=A) (X:=X) (B:=B) (R:=d) (q:=1) (r:=(xs.length-k)*1) g t V;rw[←this];simp only[aP,gv,rB]
  ·rw[aS,hr]
   simp only;rw[u];omega
end Go.Proofs
namespace Go.Proofs
open Go Go.Lift
theorem zS{W:Nat→Prop}{h:ad}{s:SliceV}{xs:List (ByteArray×ByteArray)}(d:Sl jz 2 W h s xs)(j:xs.length*32≤140737488355328){K:SliceV→ad→Prop}
  (e:∀s' h',OwnS jz 2 az (fun b=>h.size≤b) h' s' xs→Upd No h h'→K s' h'):HC PG de [.slice s.a s.len s.cap] [.c .slice] K h:=by
 refine nD s ?_;unfold iJ iA;refine CondP.intro (fun c=>?_) (fun o=>?_)
 ·have c:s.a=none:=by simpa using c
  have hx:xs= []:=by
   by_cases hx:xs= []
   ·exact hx
   ·obtain⟨a,g,_⟩:=d.row hx
    rw[c]at g;cases g
  subst hx;exact e _ _ (OwnS.nil gy) (Upd.refl _ _)
 ·have n:=d.upd (Upd.hnew No h [] az) (fun _ h=>h.elim)
  refine⟨_,n.srow,?_⟩;refine AppP.own (f:=jz) (M:=fun b=>h.size≤b) (xs:= []) (ys:=xs) ⟨rfl,gy,au _,.inl rfl⟩ d.len rfl (zK xs) rfl (by omega) (by simpa using j) (by rw[eN];omega) fun s' h' i m=>?_
  exact e _ _ i ((Upd.hnew No h [] az).trans m fun b k=>.inr k)
theorem Qi{M:Nat→Prop}{h:ad}{s:SliceV}{xs:List (ByteArray×ByteArray)}(y:OwnS jz 2 az M h s xs){k:Nat}(w:k<xs.length)(O:xs.length≤4398046511104)
  {K:SliceV→ad→Prop}(H:∀s' h',OwnS jz 2 az M h' s' (xs.take k++xs.drop (k+1))→Upd M h h'→K s' h'):
  HC PG fq [.slice s.a s.len s.cap,.int .i64 k,.int .i64 ((k+1:Nat):Int)] [.c .slice] K h:=by
 refine m9 s k ((k+1:Nat):Int) ?_;unfold iu iA;have f:=y.len;have C:=y.cap;rcases y.blk with N|⟨b,a,F,q,hc,I⟩
 ·omega
 have p:((xs.take k).flatMap jz).length=k*2:=by rw[jU gy,aY,bR (by omega)]
 have m:((xs.drop (k+1)).flatMap jz).length=(xs.length-(k+1))*2:=by rw[jU gy,aS]
 have e1:xs.flatMap jz=(xs.take k).flatMap jz++(jz xs[k]++(xs.drop (k+1)).flatMap jz):=by
  rw[←bH,←cF w];exact yY xs k
 rw[e1]at hc;have d:=zK (xs.drop (k+1));have c:(xs.take k++xs.drop (k+1)).flatMap jz=(xs.take k).flatMap jz++(xs.drop (k+1)).flatMap jz:=bW;have E:(jz xs[k]).length=2:=rfl;generalize (xs.take k).flatMap jz=A at p hc c;generalize (xs.drop (k+1)).flatMap jz=B at m hc d c;generalize jz xs[k]=X at E hc;rw[F];simp only[f,ak];refine⟨by omega,by omega,by omega,CondP.intro (fun e=>?_) fun _=>?_⟩
 ·have:(k:Int)=((k+1:Nat):Int):=by simpa using e
  omega
 refine Join.plain ⟨by omega,by omega,B,?_,?_⟩
 ·by_cases i:xs.length=k+1
  ·exact⟨m,.inl (bj.1 (by rw[m,i,sO,xu]))⟩
  rw[jw (by omega)];refine lH hc m ?_;have:(A++X).length=0+(k+1)*2:=by rw[ai];omega
  rw[show A++(X++B)++a=(A++X)++(B++a) by simp only[aK],cD this,cR m]
 ·rw[sub_zero]
  refine Qq hc (by simp only[ai];omega) (by omega) d fun L g z=>?_
  have v:a.length=(s.cap-xs.length)*2:=by rw[I,f]
  refine⟨by dsimp only;omega,by dsimp only;omega,?_⟩
  simp only[Bd];rw[jw (by omega)];have G:xs.length-(k-0+(xs.length-(k+1)))=1:=by omega
  have x:(A++(X++B)++a).drop ((k-0)*2+B.length)=(X++B).drop B.length++a:=by
   rw[aK,←cS,cD (show A.length=(k-0)*2 by rw[p,eK]),fH (by rw[ai];omega)]
  have t:(A++(X++B)++a).take ((k-0)*2)=A:=by rw[aK,cR (show A.length=(k-0)*2 by rw[p,eK])]
  rw[x,t]at g;have n:((X++B).drop B.length).length=2:=by rw[aS,ai];omega
  generalize (X++B).drop B.length=D at n g;rw[G];have J:(du 1 [.string (⟨#[]⟩:ByteArray),.string (⟨#[]⟩:ByteArray)]).length=2:=rfl;have j:(A++B).length=0+(k-0+(xs.length-(k+1)))*2:=by rw[ai,p,m];omega
  refine FM g (by simp only[ai]at j⊢;omega) fun P o u=>?_
  rw[cR j,←cS,cD j]at o;refine H _ _ ⟨by simp;omega,gy,by simp only;omega,.inr ⟨b,du 1 [.string (⟨#[]⟩:ByteArray),.string (⟨#[]⟩:ByteArray)]++(D++a).drop (du 1 [.string (⟨#[]⟩:ByteArray),.string (⟨#[]⟩:ByteArray)]).length,rfl,q,?_,?_⟩⟩ ((z.mono fun _ e=>.inl (e▸q)).tr (u.mono fun _ e=>.inl (e▸q)))
  ·rw[o,c];simp only[aK]
  ·simp only[ai,aS,J,n,v]
   omega
theorem Kh{W:Nat→Prop}{h:ad}{s:SliceV}{xs:List (Option Addr)}(d:Sl uk 1 W h s xs)(j:xs.length*8≤140737488355328){K:SliceV→ad→Prop}
  (e:∀s' h',OwnS uk 1 bO (fun b=>h.size≤b) h' s' xs→Upd No h h'→K s' h'):HC PG eH [.slice s.a s.len s.cap] [.c .slice] K h:=by
 refine lN s ?_;unfold gG;refine CondP.intro (fun c=>?_) (fun o=>?_)
 ·have c:s.a=none:=by simpa using c
  have hx:xs= []:=by
   by_cases hx:xs= []
   ·exact hx
   ·obtain⟨a,g,_⟩:=d.row hx
    rw[c]at g;cases g
  subst hx;exact e _ _ (OwnS.nil ta) (Upd.refl _ _)
 ·have n:=d.upd (Upd.hnew No h [] bO) (fun _ h=>h.elim)
  refine⟨_,n.srow,?_⟩;refine AppP.own (f:=uk) (M:=fun b=>h.size≤b) (xs:= []) (ys:=xs) ⟨rfl,ta,au _,.inl rfl⟩ d.len rfl (FQ xs) rfl (by omega) (by simpa using j) (by rw[eN];omega) fun s' h' i m=>?_
  exact e _ _ i ((Upd.hnew No h [] bO).trans m fun b k=>.inr k)
theorem Qj{M:Nat→Prop}{h:ad}{s:SliceV}{xs:List (Option Addr)}(y:OwnS uk 1 bO M h s xs){k:Nat}(w:k<xs.length)(O:xs.length≤4398046511104)
  {K:SliceV→ad→Prop}(H:∀s' h',OwnS uk 1 bO M h' s' (xs.take k++xs.drop (k+1))→Upd M h h'→K s' h'):
  HC PG eu [.slice s.a s.len s.cap,.int .i64 k,.int .i64 ((k+1:Nat):Int)] [.c .slice] K h:=by
 refine lv s k ((k+1:Nat):Int) ?_;unfold gu;have f:=y.len;have C:=y.cap;rcases y.blk with N|⟨b,a,F,q,hc,I⟩
 ·omega
 have p:((xs.take k).flatMap uk).length=k*1:=by rw[jU ta,aY,bR (by omega)]
 have m:((xs.drop (k+1)).flatMap uk).length=(xs.length-(k+1))*1:=by rw[jU ta,aS]
 have e1:xs.flatMap uk=(xs.take k).flatMap uk++(uk xs[k]++(xs.drop (k+1)).flatMap uk):=by
  rw[←bH,←cF w];exact yY xs k
 rw[e1]at hc;have d:=FQ (xs.drop (k+1));have c:(xs.take k++xs.drop (k+1)).flatMap uk=(xs.take k).flatMap uk++(xs.drop (k+1)).flatMap uk:=bW;have E:(uk xs[k]).length=1:=rfl;generalize (xs.take k).flatMap uk=A at p hc c;generalize (xs.drop (k+1)).flatMap uk=B at m hc d c;generalize uk xs[k]=X at E hc;rw[F];simp only[f,ak];refine⟨by omega,by omega,by omega,CondP.intro (fun e=>?_) fun _=>?_⟩
 ·have:(k:Int)=((k+1:Nat):Int):=by simpa using e
  omega
 refine Join.plain ⟨by omega,by omega,B,?_,?_⟩
 ·by_cases i:xs.length=k+1
  ·exact⟨m,.inl (bj.1 (by rw[m,i,sO,xu]))⟩
  rw[jw (by omega)];refine lH hc m ?_;have:(A++X).length=0+(k+1)*1:=by rw[ai];omega
  rw[show A++(X++B)++a=(A++X)++(B++a) by simp only[aK],cD this,cR m]
 ·rw[sub_zero]
  refine Qq hc (by simp only[ai];omega) (by omega) d fun L g z=>?_
  have v:a.length=(s.cap-xs.length)*1:=by rw[I,f]
  refine⟨by dsimp only;omega,by dsimp only;omega,?_⟩
  simp only[Bd];rw[jw (by omega)];have G:xs.length-(k-0+(xs.length-(k+1)))=1:=by omega
  have x:(A++(X++B)++a).drop ((k-0)*1+B.length)=(X++B).drop B.length++a:=by
   rw[aK,←cS,cD (show A.length=(k-0)*1 by rw[p,eK]),fH (by rw[ai];omega)]
  have t:(A++(X++B)++a).take ((k-0)*1)=A:=by rw[aK,cR (show A.length=(k-0)*1 by rw[p,eK])]
  rw[x,t]at g;have n:((X++B).drop B.length).length=1:=by rw[aS,ai];omega
  generalize (X++B).drop B.length=D at n g;rw[G];have J:(du 1 [.pointer none]).length=1:=rfl;have j:(A++B).length=0+(k-0+(xs.length-(k+1)))*1:=by rw[ai,p,m];omega
  refine FM g (by simp only[ai]at j⊢;omega) fun P o u=>?_
  rw[cR j,←cS,cD j]at o;refine H _ _ ⟨by simp;omega,ta,by simp only;omega,.inr ⟨b,du 1 [.pointer none]++(D++a).drop (du 1 [.pointer none]).length,rfl,q,?_,?_⟩⟩ ((z.mono fun _ e=>.inl (e▸q)).tr (u.mono fun _ e=>.inl (e▸q)))
  ·rw[o,c];simp only[aK]
  ·simp only[ai,aS,J,n,v]
   omega
theorem Te{W:Nat→Prop}{h:ad}{s:SliceV}{xs:List (Option Addr)}(d:Sl wN 1 W h s xs)(j:xs.length*8≤140737488355328){K:SliceV→ad→Prop}
  (e:∀s' h',OwnS wN 1 bI (fun b=>h.size≤b) h' s' xs→Upd No h h'→K s' h'):HC PG eg [.slice s.a s.len s.cap] [.c .slice] K h:=by
 refine lf s ?_;unfold gd;refine CondP.intro (fun c=>?_) (fun o=>?_)
 ·have c:s.a=none:=by simpa using c
  have hx:xs= []:=by
   by_cases hx:xs= []
   ·exact hx
   ·obtain⟨a,g,_⟩:=d.row hx
    rw[c]at g;cases g
  subst hx;exact e _ _ (OwnS.nil pi) (Upd.refl _ _)
 ·have n:=d.upd (Upd.hnew No h [] bI) (fun _ h=>h.elim)
  refine⟨_,n.srow,?_⟩;refine AppP.own (f:=wN) (M:=fun b=>h.size≤b) (xs:= []) (ys:=xs) ⟨rfl,pi,au _,.inl rfl⟩ d.len rfl (FP xs) rfl (by omega) (by simpa using j) (by rw[eN];omega) fun s' h' i m=>?_
  exact e _ _ i ((Upd.hnew No h [] bI).trans m fun b k=>.inr k)
theorem Qh{M:Nat→Prop}{h:ad}{s:SliceV}{xs:List (Option Addr)}(y:OwnS wN 1 bI M h s xs){k:Nat}(w:k<xs.length)(O:xs.length≤4398046511104)
  {K:SliceV→ad→Prop}(H:∀s' h',OwnS wN 1 bI M h' s' (xs.take k++xs.drop (k+1))→Upd M h h'→K s' h'):
  HC PG dZ [.slice s.a s.len s.cap,.int .i64 k,.int .i64 ((k+1:Nat):Int)] [.c .slice] K h:=by
 refine kF s k ((k+1:Nat):Int) ?_;unfold f7;have f:=y.len;have C:=y.cap;rcases y.blk with N|⟨b,a,F,q,hc,I⟩
 ·omega
 have p:((xs.take k).flatMap wN).length=k*1:=by rw[jU pi,aY,bR (by omega)]
 have m:((xs.drop (k+1)).flatMap wN).length=(xs.length-(k+1))*1:=by rw[jU pi,aS]
 have e1:xs.flatMap wN=(xs.take k).flatMap wN++(wN xs[k]++(xs.drop (k+1)).flatMap wN):=by
  rw[←bH,←cF w];exact yY xs k
 rw[e1]at hc;have d:=FP (xs.drop (k+1));have c:(xs.take k++xs.drop (k+1)).flatMap wN=(xs.take k).flatMap wN++(xs.drop (k+1)).flatMap wN:=bW;have E:(wN xs[k]).length=1:=rfl;generalize (xs.take k).flatMap wN=A at p hc c;generalize (xs.drop (k+1)).flatMap wN=B at m hc d c;generalize wN xs[k]=X at E hc;rw[F];simp only[f,ak];refine⟨by omega,by omega,by omega,CondP.intro (fun e=>?_) fun _=>?_⟩
 ·have:(k:Int)=((k+1:Nat):Int):=by simpa using e
  omega
 refine Join.plain ⟨by omega,by omega,B,?_,?_⟩
 ·by_cases i:xs.length=k+1
  ·exact⟨m,.inl (bj.1 (by rw[m,i,sO,xu]))⟩
  rw[jw (by omega)];refine lH hc m ?_;have:(A++X).length=0+(k+1)*1:=by rw[ai];omega
  rw[show A++(X++B)++a=(A++X)++(B++a) by simp only[aK],cD this,cR m]
 ·rw[sub_zero]
  refine Qq hc (by simp only[ai];omega) (by omega) d fun L g z=>?_
  have v:a.length=(s.cap-xs.length)*1:=by rw[I,f]
  refine⟨by dsimp only;omega,by dsimp only;omega,?_⟩
  simp only[Bd];rw[jw (by omega)];have G:xs.length-(k-0+(xs.length-(k+1)))=1:=by omega
  have x:(A++(X++B)++a).drop ((k-0)*1+B.length)=(X++B).drop B.length++a:=by
   rw[aK,←cS,cD (show A.length=(k-0)*1 by rw[p,eK]),fH (by rw[ai];omega)]
  have t:(A++(X++B)++a).take ((k-0)*1)=A:=by rw[aK,cR (show A.length=(k-0)*1 by rw[p,eK])]
  rw[x,t]at g;have n:((X++B).drop B.length).length=1:=by rw[aS,ai];omega
  generalize (X++B).drop B.length=D at n g;rw[G];have J:(du 1 [.pointer none]).length=1:=rfl;have j:(A++B).length=0+(k-0+(xs.length-(k+1)))*1:=by rw[ai,p,m];omega
  refine FM g (by simp only[ai]at j⊢;omega) fun P o u=>?_
  rw[cR j,←cS,cD j]at o;refine H _ _ ⟨by simp;omega,pi,by simp only;omega,.inr ⟨b,du 1 [.pointer none]++(D++a).drop (du 1 [.pointer none]).length,rfl,q,?_,?_⟩⟩ ((z.mono fun _ e=>.inl (e▸q)).tr (u.mono fun _ e=>.inl (e▸q)))
  ·rw[o,c];simp only[aK]
  ·simp only[ai,aS,J,n,v]
   omega
end Go.Proofs
namespace Go.Proofs
open Go.Lift
abbrev Pr:=ByteArray×ByteArray
theorem D6{a b:ByteArray}:a.toList=b.toList↔a=b:=by
 constructor
 ·intro h
  rw[ByteArray.toList_eq,ByteArray.toList_eq]at h;cases a;cases b;simp at h;subst h;rfl
 ·rintro rfl;rfl
def kl(a b:ByteArray):Prop:=cW a.toList b.toList=true
instance (a b:ByteArray):Decidable (kl a b):=inferInstanceAs (Decidable (_=true))
theorem UW{a b:ByteArray}:kl a b↔a.toList<b.toList:=by unfold kl;rw[bytesLess_eq,decide_eq_true_iff]
theorem fo(a:ByteArray):¬kl a a:=by rw[UW];exact List.lt_irrefl _
theorem qT{a b c:ByteArray}(h:kl a b)(k:kl b c):kl a c:=by rw[UW]at*;exact List.lt_trans h k
theorem tri:∀x y:List UInt8,cW x y=false→x≠y→cW y x=true
 | [],[],_,h=>absurd rfl h
 | [],_::_,h,_=>by simp[cW]at h
 |_::_,[],_,_=>rfl
 |a::x,b::y,h,hn=>by
  simp only[cW,Bool.or_eq_false_iff,decide_eq_false_iff_not,Bool.and_eq_false_iff]at h;simp only[cW,Bool.or_eq_true,decide_eq_true_iff,Bool.and_eq_true];by_cases e:a=b
  ·subst e
   right;refine⟨by simp,tri x y ?_ fun e=>hn (by rw[e])⟩
   rcases h.2 with h|h
   ·simp at h
   ·exact h
  ·left
   have c:=h.1;rw[UInt8.lt_iff_toNat_lt]at c⊢;have:a.toNat≠b.toNat:=fun h=>e (UInt8.toNat_inj.1 h)
   omega
theorem GY{a b:ByteArray}(h:¬kl a b)(k:a≠b):kl b a:=tri _ _ (by unfold kl at h;simpa using h) fun e=>k (D6.1 e)
def Lz(a b:ByteArray):Int:=if kl a b then-1 else if a=b then 0 else 1
theorem Nx{x:ByteArray}{h:ad}{K:Bool→ad→Prop}(a:K false h):HC PG oo [.string x] [.c .bool] K h:=by
 refine FH x ?_;unfold xR;simpa using a
theorem Ht{a b:ByteArray}{h:ad}{K:Int→ad→Prop}(c:K (Lz a b) h):HC PG lZ [.string a,.string b] [.c (.int .i64)] K h:=by
 refine C6 a b ?_;unfold vd;refine Nx (Nx (af.2 (af.2 ?_)));unfold Lz at c;refine CondP.intro (fun e=>?_) fun e=>?_
 ·rw[if_pos (show kl a b from e)]at c;exact c
 ·have d:¬kl a b:=fun h=>by rw[show cW a.toList b.toList=true from h]at e;cases e
  rw[if_neg d]at c;rw[e];refine CondP.intro (fun e2=>?_) fun e2=>?_
  ·rw[if_neg (fun h=>by subst h;simp at e2)]at c;exact c
  ·have:a.toList=b.toList:=by simpa using e2
   rw[if_pos (D6.1 this)]at c;exact c
theorem UK{p:Pr}{k:ByteArray}{h:ad}{K:Int→ad→Prop}(a:∀h',Upd No h h'→K (Lz p.1 k) h'):HC PG sF [.agg #[.string p.1,.string p.2],.string k] [.c (.int .i64)] K h:=by
 refine LQ p k ?_;unfold Df ah ez pW;have b1:=bF h [.string p.1,.string p.2] az;refine⟨p.1,by rw[df,ce,aW b1];rfl,Ht (a _ (Upd.hnew No h _ _))⟩
abbrev eY(l:List Pr):Prop:=l.Pairwise fun p q=>kl p.1 q.1
def pos(l:List Pr)(k:ByteArray):Nat:=(l.takeWhile fun p=>decide (kl p.1 k)).length
def cG(l:List Pr)(k:ByteArray):Bool:=l.any fun p=>decide (p.1=k)
theorem UF{l:List Pr}{k:ByteArray}{i:Nat}(hi:i≤l.length)(b:∀j (h:j<l.length),j<i→kl l[j].1 k)(a:∀(h:i<l.length),¬kl l[i].1 k):pos l k=i:=by
 unfold pos;induction l generalizing i with
 |nil=>simp at hi;simp[hi]
 |cons p l ih=>
  rw[List.takeWhile_cons];cases i with
  |zero=>
   have:=a (by simp);simp only[List.getElem_cons_zero]at this;rw[if_neg (by simpa using this)];rfl
  |succ i=>
   have:=b 0 (by simp) (by omega);simp only[List.getElem_cons_zero]at this;rw[if_pos (by simpa using this),List.length_cons];congr 1
   refine ih (by simpa using hi) (fun j d c=>?_) fun h=>?_
   ·have:=b (j+1) (by simpa using d) (by omega)
    simpa using this
   ·have:=a (by simpa using h)
    simpa using this
theorem UG(l:List Pr)(k:ByteArray):pos l k≤l.length:=by
 unfold pos;exact(List.takeWhile_prefix _).length_le
theorem Lo{W:Nat→Prop}{h:ad}{s:SliceV}{l:List Pr}(X:Sl jz 2 W h s l)(hr:eY l)(hn:l.length≤1000000000)(k:ByteArray){K:Int×Bool→ad→Prop}
  (E:∀h',Upd No h h'→K ((pos l k:Int),cG l k) h'):HC PG ra [.slice s.a s.len s.cap,.string k] [.c (.int .i64),.c .bool] K h:=by
 refine Ok s k ?_;unfold E6;refine jb s k _ ?_;unfold eP cU Cp bP mL;have Y:=X.len;have J:∀{p:Pr} {h:ad} {K:Int→ad→Prop},(∀h',Upd No h h'→K (Lz p.1 k) h')→HV PG (.func (.func sF) #[] #[]) [.agg #[.string p.1,.string p.2],.string k] [.c (.int .i64)] K h:=fun E=>HV.mk' (UK E)
 refine LoopP.ghost (fun(g:Nat×Nat) (t:Int×Int) h'=>t.1=(g.1:Int)∧t.2=(g.2:Int)∧g.1≤g.2∧g.2≤l.length∧Upd No h h'∧(∀j (R:j<l.length),j<g.1→kl l[j].1 k)∧(∀j (R:j<l.length),g.2≤j→¬kl l[j].1 k)) (fun g=>g.2-g.1) (0,l.length)
  ⟨rfl,by simp only;omega,by simp,by simp,Upd.refl _ _,fun j R h=>by omega,fun j R h=>by simp only at h;omega⟩ ?_
 rintro I ⟨i,j⟩ ⟨ti,tj⟩ h' ⟨e1,e2,A,C,H,d,v⟩ V;simp only at e1 e2 A C d v;subst e1 e2;have N:=X.upd H fun _ h=>h.elim
 have mono:∀a b (D:a<l.length) (U:b<l.length),a<b→kl l[a].1 l[b].1:=fun a b D U Q=>List.pairwise_iff_getElem.1 hr a b D U Q
 refine aF (fun w=>?_) fun P=>?_
 ·have w:i<j:=by have:(i:Int)<(j:Int):=w;omega
  have em:ac .i64 (gi (ac .u64 (ac .i64 ((i:Int)+(j:Int)))) (2^(min (1:Int).toNat (ag .u64))))=(((i+j)/2:Nat):Int):=by
   have e3:(2^(min (1:Int).toNat (ag .u64)):Int)=2:=rfl;rw[e3,kD (x:=(i:Int)+(j:Int)) (by omega),Go.IntWalk.u64_in _ (by omega),Int.fdiv_eq_ediv_of_nonneg _ (by omega),kD (by omega)];omega
  refine⟨by decide,?_⟩;simp only[Bd];rw[em];generalize hm:(i+j)/2=m;have B:m<l.length:=by omega
  obtain⟨a,D,_,F⟩:=N.at (ax B);refine⟨by omega,a,D,l[m].1,F 0 _ rfl,l[m].2,F 1 _ rfl,J fun Z u=>?_⟩
  refine aF (fun n=>?_) fun L=>?_
  ·have c:kl l[m].1 k:=by
    unfold Lz at n;by_cases c:kl l[m].1 k
    ·exact c
    ·rw[if_neg c]at n;split at n<;>omega
   refine V (m+1,j) _ _ ⟨by simp only;rw[kD (by omega)];omega,rfl,by simp only;omega,C,H.tr u,fun q y z=>?_,v⟩ (by simp only;omega)
   simp only at z;rcases cC q m with h|h
   ·exact qT (mono q m y B h) c
   ·have:q=m:=by omega
    subst this;exact c
  ·have f:¬kl l[m].1 k:=fun c=>L (by unfold Lz;rw[if_pos c];decide)
   refine V (i,m) _ _ ⟨rfl,rfl,by simp only;omega,by simp only;omega,H.tr u,d,fun q y z O=>?_⟩ (by simp only;omega)
   simp only at z;rcases cC m q with h|h
   ·exact f (qT (mono m q B y h) O)
   ·have:q=m:=by omega
    subst this;exact f O
 ·have A:i=j:=by have:¬(i:Int)<(j:Int):=P;omega
  subst A;have G:pos l k=i:=UF C d fun hi=>v i hi (au _)
  rw[G]at E;refine aF (fun w=>?_) fun S=>?_
  ·have o:i<l.length:=by have:(i:Int)<(s.len:Int):=w;omega
   obtain⟨a,D,_,F⟩:=N.at (ax o);refine⟨by simp only;omega,a,D,l[i].1,F 0 _ rfl,l[i].2,F 1 _ rfl,J fun Z u=>?_⟩
   have f:=v i o (au _);have T:(Lz l[i].1 k==(0:Int))=cG l k:=by
    unfold Lz cG;rw[if_neg f,Bool.eq_iff_iff,List.any_eq_true];constructor
    ·intro h
     split at h
     ·rename_i e;exact⟨l[i],List.getElem_mem o,decide_eq_true e⟩
     ·simp at h
    ·rintro⟨p,G,e⟩
     have e:=of_decide_eq_true e;obtain⟨q,y,rfl⟩:=List.mem_iff_getElem.1 G;have:q=i:=by
      rcases Nat.lt_trichotomy q i with h|h|h
      ·exact absurd (e▸d q y h) (fo _)
      ·exact h
      ·exact absurd (e▸mono i q o y h) f
     subst this;rw[if_pos e];rfl
   rw[T];exact E _ (H.tr u)
  ·have o:i=l.length:=by have:¬(i:Int)<(s.len:Int):=S;omega
   have T:cG l k=false:=by
    unfold cG;rw[List.any_eq_false];intro p G e;have e:=of_decide_eq_true e;obtain⟨q,y,rfl⟩:=List.mem_iff_getElem.1 G;exact absurd (e▸d q y (by omega)) (fo _)
   rw[T]at E;exact E _ H
end Go.Proofs
