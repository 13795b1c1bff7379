/- A part of the proof that the named laws of this program answer true, whatever the input. -/
import Derived.Shelf.Lays
import Derived.Shelf.LaysM
import Derived.Test.YtopdngagmfanlaaGreatDoorTreeF0
import Derived.Test.YtopdngagmfanlaaGreatDoorTreeF1
import Derived.Test.YtopdngagmfanlaaGreatDoorTreeF2
import Derived.Test.YtopdngagmfanlaaGreatDoorLaw0
import Derived.Test.YtopdngagmfanlaaGreatDoorLift3
import Derived.Lib.Overlaps
import Derived.Sort.Walk0
set_option maxRecDepth 100000
open BitVec renaming ofInt→ao
open ByteArray renaming size_extract→kF
open Go.IntKind renaming wrap→ac,bits→af
open Go.Op renaming bytesLess→cR
open Int renaming fdiv→fK,toNat_natCast→ai
open List renaming flatMap_cons→bD,take_length→bf,length_take→aL,length_drop→aR,flatMap_append→cn,drop_zero→cM,append_assoc→aH,take_append_of_le_length→eY,take_of_length_le→bI,length_append→ah,drop_left→iw,take_left→jQ,size_toArray→cH,drop_eq_getElem_cons→eU,length_eq_zero_iff→bJ,drop_left'→cp,take_left'→cK,drop_drop→cU,drop_append_of_le_length→eZ,getElem?_eq_getElem→ag
open Nat renaming beq→av,zero_add→aI,sub_self→si,le_refl→ax,lt_or_ge→co,min_eq_left→bQ,sub_zero→ep,min→dF,add_one_mul→fU,le_mul_of_pos_left→pn,min_eq_right→p0,zero_mul→wI
namespace Go.Proofs
open Go Go.Lift Go.Shelf
def Jx:Ren:=⟨fun n=>bif av n 129 then 130 else bif av n 137 then 37 else bif av n 138 then 113 else bif av n 143 then 114 else bif av n 195 then 136 else bif av n 217 then 70 else bif av n 218 then 137 else bif av n 219 then 138 else bif av n 224 then 192 else bif av n 225 then 191 else bif av n 240 then 74 else bif av n 266 then 96 else bif av n 267 then 193 else bif av n 276 then 107 else bif av n 283 then 103 else bif av n 284 then 104 else bif av n 285 then 105 else bif av n 314 then 269 else bif av n 317 then 129 else bif av n 318 then 131 else 0,
 fun n=>bif av n 0 then 0 else bif av n 3 then 3 else bif av n 4 then 4 else bif av n 5 then 5 else bif av n 9 then 9 else bif av n 20 then 20 else bif av n 37 then 95 else bif av n 46 then 32 else bif av n 51 then 23 else bif av n 53 then 52 else bif av n 70 then 103 else bif av n 72 then 105 else bif av n 146 then 335 else bif av n 164 then 168 else bif av n 212 then 202 else 0,
 fun n=>bif av n 1 then 0 else bif av n 17 then 3 else 0⟩
theorem zA:Lays.n240 PG Jx:=by constructor<;>first|kernel_rfl|(intro w;kernel_rfl)
theorem Hy:Lays.n138 PG Jx:=by constructor<;>first|kernel_rfl|(intro w;kernel_rfl)
theorem Hx:Lays.n143 PG Jx:=by constructor<;>first|kernel_rfl|(intro w;kernel_rfl)
theorem Hz:Lays.n137 PG Jx:=by constructor<;>first|kernel_rfl|(intro w;kernel_rfl)
theorem Ht:Lays.n284 PG Jx:=by constructor<;>first|kernel_rfl|(intro w;kernel_rfl)
theorem FV:LaysM.n284 PG Jx:=by constructor<;>first|exact Ht|kernel_rfl|(intro w;kernel_rfl)
theorem Hr:Lays.n285 PG Jx:=by constructor<;>first|kernel_rfl|(intro w;kernel_rfl)
theorem Hu:Lays.n283 PG Jx:=by constructor<;>first|kernel_rfl|(intro w;kernel_rfl)
end Go.Proofs
namespace Go.Proofs
open Go.Lift
theorem M4(n:Int):0≤ac .u64 n∧ac .u64 n<18446744073709551616:=by rw[IntKind.wrap_u64];omega
theorem lz{x:Int}(h: -4611686018427387904≤x∧x≤4611686018427387904):ac .i64 x=x:=Go.IntWalk.i64_in _ (by omega)
theorem dw{i n:Nat}(h:i<n)(a:n≤4611686018427387904):ac .i64 ((i:Int)+1)=((i+1:Nat):Int):=by rw[lz (by omega)];omega
theorem wB{h:ad}{b i:Nat}{c:Array Value}{t:TypeId}{v:Value}{k:ad→Prop}(a:h[b]? =some (.cells c t (0,0)))
  (d:∀h',h'[b]? =some (.cells (c.setIfInBounds i v) t (0,0))→Upd (· =b) h h'→k h'):At (hset h ⟨b,i,none⟩ v) k:=by
 refine d _ ?_ (Upd.hset _ _ rfl);rw[F5 a,iB a]
def Tz(a b:Int):Int:=ac .u64 (ao (af .u64) a&&&ao (af .u64) b).toNat
def fO(a b:Int):Int:=ac .u64 (ao (af .u64) a^^^ao (af .u64) b).toNat
def Sm(a b:Int):Int:=ac .u64 (ao (af .u64) a|||ao (af .u64) b).toNat
def Ni(x n:Int):Int:=
 Sm (ac .u64 (x*2^(min (Tz (ac .u64 n) 63).toNat (af .u64)))) (fK x (2^(min (ac .u64 (64-Tz (ac .u64 n) 63)).toNat (af .u64))))
theorem CQ{x n:Int}{h:ad}{K:Int→ad→Prop}(a:K (Ni x n) h):HC PG cX [.int .u64 x,.int .i64 n] [.c (.int .u64)] K h:=by
 refine u0 x n ?_;unfold np;exact⟨(M4 _).1,(M4 _).1,a⟩
abbrev Q4:=Int×Int×Int×Int
def q4(s:Q4):Array Value:= #[.int .u64 s.1,.int .u64 s.2.1,.int .u64 s.2.2.1,.int .u64 s.2.2.2]
def U4(a b:Int):Int:=ac .u64 (a+b)
def TO(s:Q4):Q4:=(U4 s.1 s.2.1,s.2)
def Ui(s:Q4):Q4:=(s.1,fO (Ni s.2.1 13) s.1,s.2.2)
def Vd(s:Q4):Q4:=(Ni s.1 32,s.2)
def VJ(s:Q4):Q4:=(s.1,s.2.1,U4 s.2.2.1 s.2.2.2,s.2.2.2)
def Wj(s:Q4):Q4:=(s.1,s.2.1,s.2.2.1,fO (Ni s.2.2.2 16) s.2.2.1)
def WJ(s:Q4):Q4:=(U4 s.1 s.2.2.2,s.2)
def Xp(s:Q4):Q4:=(s.1,s.2.1,s.2.2.1,fO (Ni s.2.2.2 21) s.1)
def XM(s:Q4):Q4:=(s.1,s.2.1,U4 s.2.2.1 s.2.1,s.2.2.2)
def s09(s:Q4):Q4:=(s.1,fO (Ni s.2.1 17) s.2.2.1,s.2.2)
def s10(s:Q4):Q4:=(s.1,s.2.1,Ni s.2.2.1 32,s.2.2.2)
def Nh(s:Q4):Q4:=s10 (s09 (XM (Xp (WJ (Wj (VJ (Vd (Ui (TO s)))))))))
def oA:Nat→Q4→Q4
 |0,s=>s
 |n+1,s=>oA n (Nh s)
theorem pJ{h:ad}{b i:Nat}{t:TypeId}{s s':Q4}{v:Value}{k:ad→Prop}(d:h[b]? =some (.cells (q4 s) t (0,0))) (e:(q4 s).setIfInBounds i v=q4 s')
  (c:∀h',h'[b]? =some (.cells (q4 s') t (0,0))→Upd (· =b) h h'→k h'):At (hset h ⟨b,i,none⟩ v) k:=
 wB d fun h' a f=>c h' (e▸a) f
theorem Ih{n:Nat}(V:n≤100){h:ad}{b:Nat}{t:TypeId}{s:Q4}(A:h[b]? =some (.cells (q4 s) t (0,0))) {K:Unit→ad→Prop}
  (Q:∀h',h'[b]? =some (.cells (q4 (oA n s)) t (0,0))→Upd (· =b) h h'→K () h'):HC PG il [.pointer (some ⟨b,0,none⟩),.int .i64 n] [] K h:=by
 refine AJ _ _ ?_;unfold tp bL dE ci oq;refine LoopP.ghost (fun(g:Nat×Q4) (N:Int) h'=>N=(g.1:Int)∧g.1≤n∧h'[b]? =some (.cells (q4 g.2) t (0,0))∧Upd (· =b) h h'∧oA (n-g.1) g.2=oA n s) (fun g=>n-g.1) (0,s) ⟨rfl,Nat.zero_le _,A,Upd.refl _ _,rfl⟩ ?_
 rintro I ⟨i,d⟩ N h' ⟨P,hi,a,O,x⟩ T;simp only at P hi a x;subst P;refine aK (fun v=>?_) fun U=>?_
 ·have v:i<n:=by omega
  have c:∀{h:ad} {s:Q4} {i:Nat},h[b]? =some (.cells (q4 s) t (0,0))→aC h ⟨b,0+i,none⟩=(q4 s)[i]?:=fun A=>by rw[aI];exact aP A
  have w:∀{h:ad} {s:Q4} {i:Nat},h[b]? =some (.cells (q4 s) t (0,0))→i<4→Wr h ⟨b,0+i,none⟩:=fun A hi=>by rw[aI];exact ij A hi
  simp only[show((0:Int)).toNat*1=0 from rfl,show((1:Int)).toNat*1=1 from rfl,show((2:Int)).toNat*1=2 from rfl,show((3:Int)).toNat*1=3 from rfl]
  refine⟨_,rfl,by decide,_,c (i:=0) a,_,rfl,by decide,_,c (i:=1) a,_,rfl,by decide,w (i:=0) a (by decide),pJ (s':=TO d) a rfl fun h2 f G=>?_⟩
  refine⟨_,rfl,by decide,_,c (i:=1) f,_,rfl,by decide,_,c (i:=0) f,_,rfl,CQ ⟨c (i:=0) f,by decide,w (i:=1) f (by decide),pJ (s':=Ui (TO d)) f rfl fun Y u C=>?_⟩⟩
  refine⟨_,rfl,by decide,_,c (i:=0) u,_,rfl,CQ ⟨by decide,w (i:=0) u (by decide),pJ (s':=Vd (Ui (TO d))) u rfl fun X q J=>?_⟩⟩
  refine⟨_,rfl,by decide,_,c (i:=2) q,_,rfl,by decide,_,c (i:=3) q,_,rfl,by decide,w (i:=2) q (by decide),pJ (s':=VJ (Vd (Ui (TO d)))) q rfl fun W m D=>?_⟩
  refine⟨_,rfl,by decide,_,c (i:=3) m,_,rfl,by decide,_,c (i:=2) m,_,rfl,CQ ⟨c (i:=2) m,by decide,w (i:=3) m (by decide),pJ (s':=Wj (VJ (Vd (Ui (TO d))))) m rfl fun h6 p F=>?_⟩⟩
  refine⟨_,rfl,by decide,_,c (i:=0) p,_,rfl,by decide,_,c (i:=3) p,_,rfl,by decide,w (i:=0) p (by decide),pJ (s':=WJ (Wj (VJ (Vd (Ui (TO d)))))) p rfl fun h7 k H=>?_⟩
  refine⟨_,rfl,by decide,_,c (i:=3) k,_,rfl,by decide,_,c (i:=0) k,_,rfl,CQ ⟨c (i:=0) k,by decide,w (i:=3) k (by decide),pJ (s':=Xp (WJ (Wj (VJ (Vd (Ui (TO d))))))) k rfl fun Z o L=>?_⟩⟩
  refine⟨_,rfl,by decide,_,c (i:=2) o,_,rfl,by decide,_,c (i:=1) o,_,rfl,by decide,w (i:=2) o (by decide),pJ (s':=XM (Xp (WJ (Wj (VJ (Vd (Ui (TO d)))))))) o rfl fun h9 e E=>?_⟩
  refine⟨_,rfl,by decide,_,c (i:=1) e,_,rfl,by decide,_,c (i:=2) e,_,rfl,CQ ⟨c (i:=2) e,by decide,w (i:=1) e (by decide),pJ (s':=s09 (XM (Xp (WJ (Wj (VJ (Vd (Ui (TO d))))))))) e rfl fun S j z=>?_⟩⟩
  refine⟨_,rfl,by decide,_,c (i:=2) j,_,rfl,CQ ⟨by decide,w (i:=2) j (by decide),pJ (s':=Nh d) j rfl fun R y B=>?_⟩⟩
  rw[dw v (by omega)];refine T (i+1,Nh d) _ _ ⟨rfl,v,y,O.tr (G.tr (C.tr (J.tr (D.tr (F.tr (H.tr (L.tr (E.tr (z.tr B))))))))),?_⟩ (by simp only;omega);simp only;rw[←x,show n-i=(n-(i+1))+1 by omega];rfl
 ·obtain rfl:i=n:=by omega
  rw[si]at x;have x:d=oA i s:=x;rw[←x]at Q;exact Q _ a O
end Go.Proofs
namespace Go.Proofs
open Go.Lift
def UX(s:ByteArray)(i:Nat):Int:=match s[i]? with|some b=>(b.toNat:Int)|none=>0
def Xo(b:Int)(n:Int):Int:=ac .u64 ((ac .u64 b)*2^(min n.toNat (af .u64)))
def wj(s:ByteArray):Nat→Int→Int
 |0,t=>t
 |k+1,t=>wj s k (Sm t (if k=0 then ac .u64 (UX s 0)else Xo (UX s k) ((8*k:Nat):Int)))
def DB(s:ByteArray):Int:=wj s s.size 0
theorem qM{s:ByteArray}{i:Nat}(h:i<s.size):∃b,s[i]? =some b∧UX s i=(b.toNat:Int):=⟨s[i],getElem?_pos s i h,by simp[UX,getElem?_pos s i h]⟩
theorem OT{s:ByteArray}(O:s.size≤8){h:ad}{K:Int→ad→Prop}(g:K (DB s) h):HC PG wh [.string s] [.c (.int .u64)] K h:=by
 refine Ov s ?_;unfold GU;refine Join.intro (fun t h'=>h'=h∧1≤s.size∧wj s 1 t=wj s s.size 0) (fun G p=>?_) ?_
 ·refine Join.intro (fun t h'=>h'=h∧2≤s.size∧wj s 2 t=wj s s.size 0) (fun Q m=>?_) ?_
  ·refine Join.intro (fun t h'=>h'=h∧3≤s.size∧wj s 3 t=wj s s.size 0) (fun F k=>?_) ?_
   ·refine Join.intro (fun t h'=>h'=h∧4≤s.size∧wj s 4 t=wj s s.size 0) (fun I n=>?_) ?_
    ·refine Join.intro (fun t h'=>h'=h∧5≤s.size∧wj s 5 t=wj s s.size 0) (fun D q=>?_) ?_
     ·refine Join.intro (fun t h'=>h'=h∧6≤s.size∧wj s 6 t=wj s s.size 0) (fun E o=>?_) ?_
      ·refine Join.intro (fun t h'=>h'=h∧7≤s.size∧wj s 7 t=wj s s.size 0) (fun J j=>?_) ?_
       ·refine CondP.intro (fun e=>?_) fun z=>?_
        ·have e:s.size=8:=by have:=of_decide_eq_true (by simpa using e:decide ((s.size:Int)=8)=true);omega
         obtain⟨b,c,a⟩:=qM (s:=s) (i:=7) (by omega);refine⟨b,by decide,c,by decide,j _ _ ⟨rfl,by omega,?_⟩⟩
         rw[e,←a];rfl
        refine CondP.intro (fun e=>?_) fun x=>?_
        ·have e:s.size=7:=by have:=of_decide_eq_true (by simpa using e:decide ((s.size:Int)=7)=true);omega
         exact j _ _ ⟨rfl,by omega,by rw[e]⟩
        refine CondP.intro (fun e=>?_) fun v=>?_
        ·have e:s.size=6:=by have:=of_decide_eq_true (by simpa using e:decide ((s.size:Int)=6)=true);omega
         exact o _ _ ⟨rfl,by omega,by rw[e]⟩
        refine CondP.intro (fun e=>?_) fun y=>?_
        ·have e:s.size=5:=by have:=of_decide_eq_true (by simpa using e:decide ((s.size:Int)=5)=true);omega
         exact q _ _ ⟨rfl,by omega,by rw[e]⟩
        refine CondP.intro (fun e=>?_) fun w=>?_
        ·have e:s.size=4:=by have:=of_decide_eq_true (by simpa using e:decide ((s.size:Int)=4)=true);omega
         exact n _ _ ⟨rfl,by omega,by rw[e]⟩
        refine CondP.intro (fun e=>?_) fun u=>?_
        ·have e:s.size=3:=by have:=of_decide_eq_true (by simpa using e:decide ((s.size:Int)=3)=true);omega
         exact k _ _ ⟨rfl,by omega,by rw[e]⟩
        refine CondP.intro (fun e=>?_) fun e2=>?_
        ·have e:s.size=2:=by have:=of_decide_eq_true (by simpa using e:decide ((s.size:Int)=2)=true);omega
         exact m _ _ ⟨rfl,by omega,by rw[e]⟩
        refine CondP.intro (fun e=>?_) fun e1=>?_
        ·have e:s.size=1:=by have:=of_decide_eq_true (by simpa using e:decide ((s.size:Int)=1)=true);omega
         exact p _ _ ⟨rfl,by omega,by rw[e]⟩
        have e:s.size=0:=by
         have B:¬(s.size:Int)=1:=by simpa using e1
         have C:¬(s.size:Int)=2:=by simpa using e2
         have P:¬(s.size:Int)=3:=by simpa using u
         have q4:¬(s.size:Int)=4:=by simpa using w
         have N:¬(s.size:Int)=5:=by simpa using y
         have L:¬(s.size:Int)=6:=by simpa using v
         have A:¬(s.size:Int)=7:=by simpa using x
         have H:¬(s.size:Int)=8:=by simpa using z
         omega
        unfold DB at g;rw[e]at g;exact g
       ·rintro t _ ⟨rfl,f,d⟩
        obtain⟨b,c,a⟩:=qM (s:=s) (i:=6) (by omega);refine⟨b,by decide,c,by decide,o _ _ ⟨rfl,by omega,?_⟩⟩
        rw[←d,←a];rfl
      ·rintro t _ ⟨rfl,f,d⟩
       obtain⟨b,c,a⟩:=qM (s:=s) (i:=5) (by omega);refine⟨b,by decide,c,by decide,q _ _ ⟨rfl,by omega,?_⟩⟩
       rw[←d,←a];rfl
     ·rintro t _ ⟨rfl,f,d⟩
      obtain⟨b,c,a⟩:=qM (s:=s) (i:=4) (by omega);refine⟨b,by decide,c,by decide,n _ _ ⟨rfl,by omega,?_⟩⟩
      rw[←d,←a];rfl
    ·rintro t _ ⟨rfl,f,d⟩
     obtain⟨b,c,a⟩:=qM (s:=s) (i:=3) (by omega);refine⟨b,by decide,c,by decide,k _ _ ⟨rfl,by omega,?_⟩⟩
     rw[←d,←a];rfl
   ·rintro t _ ⟨rfl,f,d⟩
    obtain⟨b,c,a⟩:=qM (s:=s) (i:=2) (by omega);refine⟨b,by decide,c,by decide,m _ _ ⟨rfl,by omega,?_⟩⟩
    rw[←d,←a];rfl
  ·rintro t _ ⟨rfl,f,d⟩
   obtain⟨b,c,a⟩:=qM (s:=s) (i:=1) (by omega);refine⟨b,by decide,c,by decide,p _ _ ⟨rfl,by omega,?_⟩⟩
   rw[←d,←a];rfl
 ·rintro t _ ⟨rfl,f,d⟩
  obtain⟨b,c,a⟩:=qM (s:=s) (i:=0) (by omega);refine⟨b,by decide,c,?_⟩
  unfold DB at g;rw[←d]at g;rw[←a];exact g
end Go.Proofs
namespace Go.Proofs
open Go.Lift
def Fq(m:Int)(s:Q4):Q4:=
 let r:=oA 2 (s.1,s.2.1,s.2.2.1,fO s.2.2.2 m)
 (fO r.1 m,r.2)
theorem O0{m:Int}{h:ad}{b:Nat}{t:TypeId}{s:Q4}(d:h[b]? =some (.cells (q4 s) t (0,0))) {K:Unit→ad→Prop}
  (o:∀h',h'[b]? =some (.cells (q4 (Fq m s)) t (0,0))→Upd (· =b) h h'→K () h'):HC PG mh [.pointer (some ⟨b,0,none⟩),.int .u64 m] [] K h:=by
 refine Dl _ _ ?_;unfold vG bL dE ci oo;have c:∀{h:ad} {s:Q4} {i:Nat},h[b]? =some (.cells (q4 s) t (0,0))→aC h ⟨b,0+i,none⟩=(q4 s)[i]?:=fun d=>by rw[aI];exact aP d
 have w:∀{h:ad} {s:Q4} {i:Nat},h[b]? =some (.cells (q4 s) t (0,0))→i<4→Wr h ⟨b,0+i,none⟩:=fun d hi=>by rw[aI];exact ij d hi
 simp only[show((0:Int)).toNat*1=0 from rfl,show((3:Int)).toNat*1=3 from rfl]
 refine⟨_,rfl,by decide,_,c (i:=3) d,_,rfl,by decide,w (i:=3) d (by decide),pJ (s':=(s.1,s.2.1,s.2.2.1,fO s.2.2.2 m)) d rfl fun v e g=>?_⟩
 refine Ih (n:=2) (by omega) e fun q a f=>?_
 have p:Fq m s=(fO (oA 2 (s.1,s.2.1,s.2.2.1,fO s.2.2.2 m)).1 m,(oA 2 (s.1,s.2.1,s.2.2.1,fO s.2.2.2 m)).2):=by unfold Fq;rfl
 rw[p]at o;generalize oA 2 (s.1,s.2.1,s.2.2.1,fO s.2.2.2 m)=r at a o;refine⟨_,rfl,by decide,_,c (i:=0) a,_,rfl,by decide,w (i:=0) a (by decide),pJ (s':=(fO r.1 m,r.2)) a rfl fun u j k=>?_⟩
 exact o _ j (g.tr (f.tr k))
def Fv:Nat→ByteArray→Q4→ByteArray×Q4
 |0,s,q=>(s,q)
 |n+1,s,q=>if 8≤s.size then Fv n (s.extract 8 s.size) (Fq (DB (s.extract 0 8)) q)else(s,q)
def Xb(r:Q4):Int:=fO (fO (fO r.1 r.2.1) r.2.2.1) r.2.2.2
def Xa(q:Q4):Int:=Xb (oA 4 (q.1,q.2.1,fO q.2.2.1 255,q.2.2.2))
def XK(n:Nat)(g:ByteArray×Q4):Int:=Xa (Fq (Sm (DB g.1) (Xo (n:Int) 56)) g.2)
def Ud(k0 k1:Int)(s:ByteArray):Int:=
 XK s.size (Fv s.size s (fO k0 8317987319222330741,fO k1 7237128888997146477,fO k0 7816392313619706465,fO k1 8387220255154660723))
theorem UO{a:ad}{b:Nat}{t:TypeId}{r:Q4}(f:a[b]? =some (.cells (q4 r) t (0,0))) {K:Int→Prop} (g:K (Xb r)):
  (((0:Int)≤(0:Int)∧(0:Int)<((4:Nat):Int))∧
   ∃v30:Int,aC a (adr ⟨b,0,none⟩ ((0:Int).toNat*1))=some (.int .u64 v30)∧
   (((0:Int)≤(1:Int)∧(1:Int)<((4:Nat):Int))∧
    ∃v31:Int,aC a (adr ⟨b,0,none⟩ ((1:Int).toNat*1))=some (.int .u64 v31)∧
    Bd (ac .u64 (ao (af .u64) v30^^^ao (af .u64) v31).toNat:Int) (fun n32=>
     (((0:Int)≤(2:Int)∧(2:Int)<((4:Nat):Int))∧
      ∃v33:Int,aC a (adr ⟨b,0,none⟩ ((2:Int).toNat*1))=some (.int .u64 v33)∧
      Bd (ac .u64 (ao (af .u64) n32^^^ao (af .u64) v33).toNat:Int) (fun e=>
       (((0:Int)≤(3:Int)∧(3:Int)<((4:Nat):Int))∧
        ∃v35:Int,aC a (adr ⟨b,0,none⟩ ((3:Int).toNat*1))=some (.int .u64 v35)∧
        Bd (ac .u64 (ao (af .u64) e^^^ao (af .u64) v35).toNat:Int) (fun d=>
         K d))))))):=by
 have c:∀{i:Nat},aC a ⟨b,0+i,none⟩=(q4 r)[i]?:=by intro i;rw[aI];exact aP f
 exact⟨by decide,_,c (i:=0),by decide,_,c (i:=1),by decide,_,c (i:=2),by decide,_,c (i:=3),g⟩
theorem UN{a:ad}{b:Nat}{t:TypeId}{q:Q4}(e:a[b]? =some (.cells (q4 q) t (0,0))) {K:Unit→ad→Prop}
  (p:∀h',h'[b]? =some (.cells (q4 (oA 4 (q.1,q.2.1,fO q.2.2.1 255,q.2.2.2))) t (0,0))→Upd (· =b) a h'→K () h'):
  (((0:Int)≤(2:Int)∧(2:Int)<((4:Nat):Int))∧
   ∃v25:Int,aC a (adr ⟨b,0,none⟩ ((2:Int).toNat*1))=some (.int .u64 v25)∧
   Bd (ac .u64 (ao (af .u64) v25^^^ao (af .u64) 255).toNat:Int) (fun k=>
    (((0:Int)≤(2:Int)∧(2:Int)<((4:Nat):Int))∧
     (Wr a (adr ⟨b,0,none⟩ ((2:Int).toNat*1))∧
      At (hset a (adr ⟨b,0,none⟩ ((2:Int).toNat*1)) (.int .u64 k)) (fun m=>
       HC PG il [.pointer (some ⟨b,0,none⟩),.int .i64 4] [] K m))))):=by
 have c:∀{i:Nat},aC a ⟨b,0+i,none⟩=(q4 q)[i]?:=by intro i;rw[aI];exact aP e
 refine⟨by decide,_,c (i:=2),by decide,by rw[show((2:Int)).toNat*1=2 from rfl,cc];exact ij e (by simp[q4]),?_⟩
 refine pJ (s':=(q.1,q.2.1,fO q.2.2.1 255,q.2.2.2)) e rfl fun s d f=>?_
 exact Ih (n:=4) (by omega) d fun o g j=>p o g (f.tr j)
theorem aY{h:ad}{k:ad→Prop}(a:k h):At h k:=a
theorem VF{k0 k1:Int}{s:ByteArray}{h:ad}{K:Int→ad→Prop}(C:∀h',Upd No h h'→K (Ud k0 k1 s) h'):HC PG C7 [.agg #[.int .u64 k0,.int .u64 k1],.string s] [.c (.int .u64)] K h:=by
 refine QO (k0,k1) s ?_;unfold Je bL dE ci nv xq ae oo WL Wl Ws;have t:=Upd.hnew No h [.int .u64 k0,.int .u64 k1] vn;have b1:=bG h [.int .u64 k0,.int .u64 k1] vn;have E:=fM h [.int .u64 k0,.int .u64 k1] vn;refine aY ?_;simp only[cV h];generalize hnew h [.int .u64 k0,.int .u64 k1] vn=h1 at t b1 E;refine⟨k0,by rw[cc,aP b1];rfl,k1,by rw[cc,aP b1];rfl,k0,by rw[cc,aP b1];rfl,k1,by rw[cc,aP b1];rfl,?_⟩
 have G:=Upd.hnew No h1 [.int .u64 0,.int .u64 0,.int .u64 0,.int .u64 0] iZ;have b2:=bG h1 [.int .u64 0,.int .u64 0,.int .u64 0,.int .u64 0] iZ;simp only[cV h1];simp only[Bd];refine aY ?_;refine⟨.inr ⟨_,rfl,fun j F=>by rw[cc];exact ij b2 (by simp at F⊢;omega)⟩,?_⟩
 refine aY ?_;rw[iS _ _ 0 0 _ b2 (by simp)];have b3:=iB (o:=.cells (q4 (fO k0 8317987319222330741,fO k1 7237128888997146477,fO k0 7816392313619706465,fO k1 8387220255154660723)) iZ (0,0)) b2;have N:Upd No h _:=t.tr (G.trans (M':=(· =h1.size)) (Upd.set (hnew h1 [.int .u64 0,.int .u64 0,.int .u64 0,.int .u64 0] iZ) (.cells (q4 (fO k0 8317987319222330741,fO k1 7237128888997146477,fO k0 7816392313619706465,fO k1 8387220255154660723)) iZ (0,0)) rfl) fun b d=>.inr (Nat.le_of_eq d.symm))
 refine LoopP.ghost (fun(g:Nat×Q4) (a:ByteArray) h'=>a.size≤g.1∧h'[h1.size]? =some (.cells (q4 g.2) iZ (0,0))∧Upd No h h'∧Fv g.1 a g.2=Fv s.size s (fO k0 8317987319222330741,fO k1 7237128888997146477,fO k0 7816392313619706465,fO k1 8387220255154660723)) (fun g=>g.1) (s.size,_)
  ⟨ax _,b3,N,rfl⟩ ?_
 rintro I ⟨n,q⟩ a h' ⟨D,d,B,p⟩ H;simp only at D d p;have k:∀b,b=h1.size→No b∨h.size≤b:=fun b d=>.inr (by omega)
 refine aK (fun u=>?_) fun v=>?_
 ·have u:8≤a.size:=by omega
  cases n with
  |zero=>omega
  |succ n=>
   refine⟨by omega,OT (by rw[kF];show min 8 _-0≤8;omega) (O0 d fun J e f=>⟨by omega,?_⟩)⟩
   have L:((8:Int)).toNat=8:=rfl;rw[L]at e⊢;refine H (n,Fq (DB (a.extract 0 8)) q) _ _ ⟨by simp only[kF];omega,e,B.trans f k,?_⟩ (by simp only;omega);rw[←p];simp only[Fv,if_pos u]
 ·have v:a.size<8:=by omega
  have p:(a,q)=Fv s.size s (fO k0 8317987319222330741,fO k1 7237128888997146477,fO k0 7816392313619706465,fO k1 8387220255154660723):=by
   rw[←p];cases n with
   |zero=>rfl
   |succ n=>simp only[Fv,if_neg (show ¬8≤a.size by omega)]
  have c:∀{h:ad} {s:Q4} {i:Nat},h[h1.size]? =some (.cells (q4 s) iZ (0,0))→aC h ⟨h1.size,0+i,none⟩=(q4 s)[i]?:=fun d=>by rw[aI];exact aP d
  have w:∀{h:ad} {s:Q4} {i:Nat},h[h1.size]? =some (.cells (q4 s) iZ (0,0))→i<4→Wr h ⟨h1.size,0+i,none⟩:=fun d hi=>by rw[aI];exact ij d hi
  have x:Ud k0 k1 s=Xa (Fq (Sm (DB a) (Xo (s.size:Int) 56)) q):=by unfold Ud;rw[←p];rfl
  rw[x]at C;refine OT (by omega) ⟨by decide,O0 (m:=Sm (DB a) (Xo (s.size:Int) 56)) d fun J e f=>?_⟩
  refine UN e fun A y z=>UO (K:=fun n=>K n A) y ?_
  exact C A ((B.trans f k).trans z k)
structure Hs where
 k0:Int
 k1:Int
 mask:Int
def i5(h:Hs)(s:ByteArray):Int:=Tz (Ud h.k0 h.k1 s) h.mask
theorem Bw{x:Hs}{s:ByteArray}{h:ad}{K:Int→ad→Prop}(c:∀h',Upd No h h'→K (i5 x s) h'):HC PG fF [.agg #[.int .u64 x.k0,.int .u64 x.k1,.int .u64 x.mask],.string s] [.c (.int .u64)] K h:=by
 refine BW (x.k0,x.k1,x.mask) s ?_;unfold un ae yV gx WB;have a:=Upd.hnew No h [.int .u64 x.k0,.int .u64 x.k1,.int .u64 x.mask] eg;have b1:=bG h [.int .u64 x.k0,.int .u64 x.k1,.int .u64 x.mask] eg;simp only[At,cV h];generalize hnew h [.int .u64 x.k0,.int .u64 x.k1,.int .u64 x.mask] eg=h1 at a b1;refine⟨x.k0,by rw[cc,cc,aP b1];rfl,x.k1,by rw[cc,cc,aP b1];rfl,x.mask,by rw[cc,aP b1];rfl,?_⟩
 refine VF fun d b=>⟨by rw[cc,aP (b.get0 b1)];rfl,c _ (a.tr b)⟩
theorem LZ(x:Hs)(s:ByteArray):0≤i5 x s∧i5 x s<18446744073709551616:=M4 _
end Go.Proofs
namespace Go.Proofs
open Go Go.Lift
abbrev kK(x:ByteArray×ByteArray):List Value:= [.string x.1,.string x.2]
theorem ko(x:ByteArray×ByteArray):(kK x).length=2∧0<2:=⟨rfl,by omega⟩
theorem yD:∀xs:List (ByteArray×ByteArray),cj (xs.flatMap kK)=true
 | []=>rfl
 |x::xs=>by rw[bD];exact md rfl (yD xs)
theorem JJ{h:ad}{a b o e d c f:Nat}{i cw:Array Value}{k tb:TypeId}(g:h[a]? =some (.cells i k (0,0))) (n:h[b]? =some (.cells cw tb (0,0))) (m:a≠b) (p:cw.size≠0) {K:Bool→ad→Prop} (q:K false h):
  HC PG gY [.slice (some ⟨a,0,none⟩) e d,.slice (some ⟨b,o,none⟩) c f] [.c .bool] K h:=by
 refine⟨fun w j=>.inr ⟨.bool false,w,?_,Tame.refl w,false,rfl,j▸q⟩⟩
 subst j;rw[sh];have:=Lib.run_overlaps_apart (P:=PG) w dY lF au (by kernel_rfl) (bT PG au) (qD (by kernel_rfl)) ⟨a,0,none⟩ ⟨b,o,none⟩ e d c f m k tb i.size cw.size
  (by simp[World.shape?,g]) (by simp[World.shape?,n]) p (by simp[World.frozen?,g]) (by simp[World.frozen?,g])
 rw[show([Value.slice (some ⟨a,0,none⟩) e d,Value.slice (some ⟨b,o,none⟩) c f]:List Value).toArray= #[.slice (some ⟨a,0,none⟩) e d,.slice (some ⟨b,o,none⟩) c f]from rfl,this]
 rfl
set_option maxRecDepth 4000 in
theorem NT{M:Nat→Prop}{h:ad}{s:SliceV}{xs:List (ByteArray×ByteArray)}(U:OwnS kK 2 au M h s xs){k:Nat}(hkl:k≤xs.length)(hn:(xs.length+1)*32≤140737488355328){x:ByteArray×ByteArray}{m:Nat}(D:h[m]? =some (.cells (kK x).toArray au (0,0)))
  (hvM:¬M m) (hM:∀b,h.size≤b→M b) {K:SliceV→ad→Prop} (hK:∀s' h',OwnS kK 2 au M h' s' (xs.take k++x::xs.drop k)→Upd M h h'→K s' h'):
  HC PG cQ [.slice s.a s.len s.cap,.int .i64 k,.slice (some ⟨m,0,none⟩) 1 1] [.c .slice] K h:=by
 refine mr s k ⟨some ⟨m,0,none⟩,1,1⟩ ?_;unfold gG rV;have u:=U.len;have hcap:=U.cap;have I:SRow h (some ⟨m,0,none⟩) (1*2) (kK x):=⟨rfl,.inr ⟨_,rfl,qc D fun i v hi=>by simpa using hi⟩⟩
 refine⟨by omega,aj.2 ?_⟩;refine CondP.intro (fun e=>?_) fun e=>?_
 ·have e:k=xs.length:=by have:=of_decide_eq_true (by simpa using e:decide ((k:Int)=(s.len:Int))=true);omega
  subst e;refine⟨_,I,AppP.own (ys:= [x]) U rfl (by simp) rfl rfl (by omega) (by simp;omega) (hM _ (ax _)) fun s' h' ho hu=>hK s' h' ?_ hu⟩
  rw[bf,List.drop_length];exact ho
 have hlt:k<xs.length:=by
  rcases co k xs.length with h|h
  ·exact h
  ·have:((k:Int)==(s.len:Int))=true:=by rw[beq_iff_eq];omega
   rw[this]at e;cases e
 rcases U.blk with h0|⟨b,d,ha,n,hc,hr⟩
 ·omega
 have j:((xs.take k).flatMap kK).length=k*2:=by rw[jj ko,aL,bQ hkl]
 have t:((xs.drop k).flatMap kK).length=(xs.length-k)*2:=by rw[jj ko,aR]
 have N:m≠b:=fun e=>hvM (e▸n)
 rw[yd (f:=kK) xs k]at hc;have a:(xs.take k++x::xs.drop k).flatMap kK=(xs.take k).flatMap kK++(kK x++(xs.drop k).flatMap kK):=by rw[cn,bD]
 have g:=yD (xs.drop k);have c:(kK x).length=2:=rfl;have z:cj (kK x)=true:=rfl;generalize hAe:(xs.take k).flatMap kK=A at j hc a;generalize hBe:(xs.drop k).flatMap kK=B at t hc a g;generalize kK x=X at I c D a z;rw[ha];have w1:ac .i64 ((xs.length:Int)+((1:Nat):Int))=((xs.length+1:Nat):Int):=by rw[lz (by omega)];omega
 have w2:ac .i64 ((k:Int)+((1:Nat):Int))=((k+1:Nat):Int):=by rw[lz (by omega)];omega
 have w3:ac .i64 (((xs.length+1:Nat):Int)-(k:Int))=((xs.length+1-k:Nat):Int):=by rw[lz (by omega)];omega
 simp only[w1,w2,w3,ai,u];refine aK (fun hgt=>?_) fun hle=>?_
 ·
  have G:s.cap=xs.length:=by omega
  refine Join.plain ⟨by omega,⟨by omega,by omega,by omega,by omega⟩,fun hin=>?_,fun J=>?_⟩
  ·omega
  ·refine⟨A,_,?_,rfl,by omega,Go.growslice_fits J (by omega),fun E w=>?_⟩
   ·rw[sub_zero]
    exact kZ hc (by rw[j];omega) (by simp only[cM,ep];rw[aH,←j,eY (ax _),bf])
   ·simp only[ai]at w⊢
    have T:=Upd.hnew No h (A++de (xs.length+1-k) [.string (⟨#[]⟩:ByteArray),.string (⟨#[]⟩:ByteArray)]++de (E-(k-0+(xs.length+1-k))) [.string (⟨#[]⟩:ByteArray),.string (⟨#[]⟩:ByteArray)]) au;have bn:=bG h (A++de (xs.length+1-k) [.string (⟨#[]⟩:ByteArray),.string (⟨#[]⟩:ByteArray)]++de (E-(k-0+(xs.length+1-k))) [.string (⟨#[]⟩:ByteArray),.string (⟨#[]⟩:ByteArray)]) au
    have y:(de (xs.length+1-k) [.string (⟨#[]⟩:ByteArray),.string (⟨#[]⟩:ByteArray)]).length=(xs.length+1-k)*2:=lA _ _;have W:(de (E-(k-0+(xs.length+1-k))) [.string (⟨#[]⟩:ByteArray),.string (⟨#[]⟩:ByteArray)]).length=(E-(k-0+(xs.length+1-k)))*2:=lA _ _;have o:k-0+(xs.length+1-k)=xs.length+1:=by omega
    rw[cV];have hsz:h.size≠m:=fun e=>by have:=bv D;omega
    have H:h.size≠b:=fun e=>by have:=bv hc;omega
    have S:=T.get0 hc;have O:=T.get0 D;generalize hnew h _ au=h9 at T bn S O;rw[o]at w W⊢;have m1:dF 1 (xs.length+1-k)=1:=bQ (by omega);have m2:dF (xs.length-k) (xs.length+1-(k+1))=xs.length-k:=bQ (by omega);rw[m1];have xr9:SRow h9 (some ⟨m,0,none⟩) (1*2) X:=kZ O (by rw[c]) (by rw[cM,bI];rw[c];omega)
    refine⟨by omega,?_⟩;rw[iM (by omega)];refine kN xr9 z bn (by simp only[ah,j,y];omega) fun Z F p=>⟨by omega,?_⟩
    simp only[Bd];rw[iM (by omega),iM (by omega),m2];refine⟨by omega,?_⟩;have C:=p.get S (fun e=>H e.symm)
    have Y:SRow Z (some ⟨b,0+k*2,none⟩) ((xs.length-k)*2) B:=kZ C t (by
     rw[aI,aH,←j,iw,←t,jQ])
    refine kN Y g F ?_ fun h16 P Q=>?_
    ·simp only[ah,aL,aR,j,y,c];omega
    ·refine hK _ _ ⟨by simp;omega,ko,w,.inr ⟨h.size,de (E-(xs.length+1)) [.string (⟨#[]⟩:ByteArray),.string (⟨#[]⟩:ByteArray)],rfl,hM _ (ax _),?_,by rw[lA];rfl⟩⟩ ((T.wide.trans (M':=(· =h.size)) p fun b n=>.inl (n▸hM _ (ax _))).trans (M':=(· =h.size)) Q fun b n=>.inl (n▸hM _ (ax _)))
     rw[P,a];have:=JR (A:=A) (X:=X) (B:=B) (Z1:=de (xs.length+1-k) [.string (⟨#[]⟩:ByteArray),.string (⟨#[]⟩:ByteArray)]) (Z2:=de (E-(xs.length+1)) [.string (⟨#[]⟩:ByteArray),.string (⟨#[]⟩:ByteArray)]) (r:=(xs.length-k)*2) j c (by rw[y,←fU];congr 1;omega);rw[o,←this];simp only[aI,fU]
 ·have G:xs.length+1≤s.cap:=by omega
  refine⟨by omega,?_⟩;simp only[Bd,ep];rw[sub_zero,iM (show s.cap≠k+1 by omega),iM (show s.cap≠k by omega)]
  refine⟨by omega,?_⟩;have hrl:2≤d.length:=by rw[hr];exact pn _ (by omega)
  refine JJ D hc N (by rw[cH,ah];omega) ?_;refine aB.2 ⟨by omega,by omega,?_⟩
  have m1:dF 1 (xs.length+1-k)=1:=bQ (by omega);have m2:dF (xs.length+1-k) (xs.length+1-(k+1))=xs.length-k:=by
   rw[show xs.length+1-(k+1)=xs.length-k by omega];exact p0 (by omega)
  rw[m2];have Y:SRow h (some ⟨b,0+k*2,none⟩) ((xs.length-k)*2) B:=kZ hc t (by
   rw[aI,aH,←j,iw,←t,jQ])
  refine kN Y g hc (by simp only[ah,j,t];omega) fun h1 V L=>⟨by omega,?_⟩
  rw[m1];have xr1:SRow h1 (some ⟨m,0,none⟩) (1*2) X:=kZ (L.get D N) (by rw[c]) (by rw[cM,bI];rw[c];omega);refine kN xr1 z V (by simp only[ah,aL,aR,j,t];omega) fun h2 hb2 hu2=>?_
  refine hK _ _ ⟨by simp;omega,ko,G,.inr ⟨b,d.drop 2,rfl,n,?_,?_⟩⟩ ((L.mono fun _ e=>.inl (e▸n)).tr (hu2.mono fun _ e=>.inl (e▸n)))
  ·rw[hb2,a]
   have:=NV (A:=A) (X:=X) (B:=B) (R:=d) (q:=2) (r:=(xs.length-k)*2) j t hrl;rw[←this];simp only[aI,fU]
  ·rw[aR,hr]
   simp only;rw[u];omega
abbrev tP(x:Option Addr):List Value:= [.pointer x]
theorem sF(x:Option Addr):(tP x).length=1∧0<1:=⟨rfl,by omega⟩
theorem ET:∀xs:List (Option Addr),cj (xs.flatMap tP)=true
 | []=>rfl
 |x::xs=>by rw[bD];exact md rfl (ET xs)
theorem JK{h:ad}{a b o e d c f:Nat}{i cw:Array Value}{k tb:TypeId}(g:h[a]? =some (.cells i k (0,0))) (n:h[b]? =some (.cells cw tb (0,0))) (m:a≠b) (p:cw.size≠0) {K:Bool→ad→Prop} (q:K false h):
  HC PG gA [.slice (some ⟨a,0,none⟩) e d,.slice (some ⟨b,o,none⟩) c f] [.c .bool] K h:=by
 refine⟨fun w j=>.inr ⟨.bool false,w,?_,Tame.refl w,false,rfl,j▸q⟩⟩
 subst j;rw[qO];have:=Lib.run_overlaps_apart (P:=PG) w ri lF bK (by kernel_rfl) (bT PG bK) (qD (by kernel_rfl)) ⟨a,0,none⟩ ⟨b,o,none⟩ e d c f m k tb i.size cw.size
  (by simp[World.shape?,g]) (by simp[World.shape?,n]) p (by simp[World.frozen?,g]) (by simp[World.frozen?,g])
 rw[show([Value.slice (some ⟨a,0,none⟩) e d,Value.slice (some ⟨b,o,none⟩) c f]:List Value).toArray= #[.slice (some ⟨a,0,none⟩) e d,.slice (some ⟨b,o,none⟩) c f]from rfl,this]
 rfl
set_option maxRecDepth 4000 in
theorem NU{M:Nat→Prop}{h:ad}{s:SliceV}{xs:List (Option Addr)}(U:OwnS tP 1 bK M h s xs){k:Nat}(hkl:k≤xs.length)(hn:(xs.length+1)*8≤140737488355328){x:Option Addr}{m:Nat}(D:h[m]? =some (.cells (tP x).toArray bK (0,0)))
  (hvM:¬M m) (hM:∀b,h.size≤b→M b) {K:SliceV→ad→Prop} (hK:∀s' h',OwnS tP 1 bK M h' s' (xs.take k++x::xs.drop k)→Upd M h h'→K s' h'):
  HC PG cC [.slice s.a s.len s.cap,.int .i64 k,.slice (some ⟨m,0,none⟩) 1 1] [.c .slice] K h:=by
 refine kO s k ⟨some ⟨m,0,none⟩,1,1⟩ ?_;unfold fS;have u:=U.len;have hcap:=U.cap;have I:SRow h (some ⟨m,0,none⟩) (1*1) (tP x):=⟨rfl,.inr ⟨_,rfl,qc D fun i v hi=>by simpa using hi⟩⟩
 refine⟨by omega,aj.2 ?_⟩;refine CondP.intro (fun e=>?_) fun e=>?_
 ·have e:k=xs.length:=by have:=of_decide_eq_true (by simpa using e:decide ((k:Int)=(s.len:Int))=true);omega
  subst e;refine⟨_,I,AppP.own (ys:= [x]) U rfl (by simp) rfl rfl (by omega) (by simp;omega) (hM _ (ax _)) fun s' h' ho hu=>hK s' h' ?_ hu⟩
  rw[bf,List.drop_length];exact ho
 have hlt:k<xs.length:=by
  rcases co k xs.length with h|h
  ·exact h
  ·have:((k:Int)==(s.len:Int))=true:=by rw[beq_iff_eq];omega
   rw[this]at e;cases e
 rcases U.blk with h0|⟨b,d,ha,n,hc,hr⟩
 ·omega
 have j:((xs.take k).flatMap tP).length=k*1:=by rw[jj sF,aL,bQ hkl]
 have t:((xs.drop k).flatMap tP).length=(xs.length-k)*1:=by rw[jj sF,aR]
 have N:m≠b:=fun e=>hvM (e▸n)
 rw[yd (f:=tP) xs k]at hc;have a:(xs.take k++x::xs.drop k).flatMap tP=(xs.take k).flatMap tP++(tP x++(xs.drop k).flatMap tP):=by rw[cn,bD]
 have g:=ET (xs.drop k);have c:(tP x).length=1:=rfl;have z:cj (tP x)=true:=rfl;generalize hAe:(xs.take k).flatMap tP=A at j hc a;generalize hBe:(xs.drop k).flatMap tP=B at t hc a g;generalize tP x=X at I c D a z;rw[ha];have w1:ac .i64 ((xs.length:Int)+((1:Nat):Int))=((xs.length+1:Nat):Int):=by rw[lz (by omega)];omega
 have w2:ac .i64 ((k:Int)+((1:Nat):Int))=((k+1:Nat):Int):=by rw[lz (by omega)];omega
 have w3:ac .i64 (((xs.length+1:Nat):Int)-(k:Int))=((xs.length+1-k:Nat):Int):=by rw[lz (by omega)];omega
 simp only[w1,w2,w3,ai,u];refine aK (fun hgt=>?_) fun hle=>?_
 ·
  have G:s.cap=xs.length:=by omega
  refine Join.plain ⟨by omega,⟨by omega,by omega,by omega,by omega⟩,fun hin=>?_,fun J=>?_⟩
  ·omega
  ·refine⟨A,_,?_,rfl,by omega,Go.growslice_fits J (by omega),fun E w=>?_⟩
   ·rw[sub_zero]
    exact kZ hc (by rw[j];omega) (by simp only[cM,ep];rw[aH,←j,eY (ax _),bf])
   ·simp only[ai]at w⊢
    have T:=Upd.hnew No h (A++de (xs.length+1-k) [.pointer none]++de (E-(k-0+(xs.length+1-k))) [.pointer none]) bK;have bn:=bG h (A++de (xs.length+1-k) [.pointer none]++de (E-(k-0+(xs.length+1-k))) [.pointer none]) bK;have y:(de (xs.length+1-k) [.pointer none]).length=(xs.length+1-k)*1:=lA _ _;have W:(de (E-(k-0+(xs.length+1-k))) [.pointer none]).length=(E-(k-0+(xs.length+1-k)))*1:=lA _ _
    have o:k-0+(xs.length+1-k)=xs.length+1:=by omega
    rw[cV];have hsz:h.size≠m:=fun e=>by have:=bv D;omega
    have H:h.size≠b:=fun e=>by have:=bv hc;omega
    have S:=T.get0 hc;have O:=T.get0 D;generalize hnew h _ bK=h9 at T bn S O;rw[o]at w W⊢;have m1:dF 1 (xs.length+1-k)=1:=bQ (by omega);have m2:dF (xs.length-k) (xs.length+1-(k+1))=xs.length-k:=bQ (by omega);rw[m1];have xr9:SRow h9 (some ⟨m,0,none⟩) (1*1) X:=kZ O (by rw[c]) (by rw[cM,bI];rw[c];omega)
    refine⟨by omega,?_⟩;rw[iM (by omega)];refine kN xr9 z bn (by simp only[ah,j,y];omega) fun Z F p=>⟨by omega,?_⟩
    simp only[Bd];rw[iM (by omega),iM (by omega),m2];refine⟨by omega,?_⟩;have C:=p.get S (fun e=>H e.symm)
    have Y:SRow Z (some ⟨b,0+k*1,none⟩) ((xs.length-k)*1) B:=kZ C t (by
     rw[aI,aH,←j,iw,←t,jQ])
    refine kN Y g F ?_ fun h16 P Q=>?_
    ·simp only[ah,aL,aR,j,y,c];omega
    ·refine hK _ _ ⟨by simp;omega,sF,w,.inr ⟨h.size,de (E-(xs.length+1)) [.pointer none],rfl,hM _ (ax _),?_,by rw[lA];rfl⟩⟩ ((T.wide.trans (M':=(· =h.size)) p fun b n=>.inl (n▸hM _ (ax _))).trans (M':=(· =h.size)) Q fun b n=>.inl (n▸hM _ (ax _)))
     rw[P,a];have:=JR (A:=A) (X:=X) (B:=B) (Z1:=de (xs.length+1-k) [.pointer none]) (Z2:=de (E-(xs.length+1)) [.pointer none]) (r:=(xs.length-k)*1) j c (by rw[y,←fU];congr 1;omega);rw[o,←this];simp only[aI,fU]
 ·have G:xs.length+1≤s.cap:=by omega
  refine⟨by omega,?_⟩;simp only[Bd,ep];rw[sub_zero,iM (show s.cap≠k+1 by omega),iM (show s.cap≠k by omega)]
  refine⟨by omega,?_⟩;have hrl:1≤d.length:=by rw[hr];exact pn _ (by omega)
  refine JK D hc N (by rw[cH,ah];omega) ?_;refine aB.2 ⟨by omega,by omega,?_⟩
  have m1:dF 1 (xs.length+1-k)=1:=bQ (by omega);have m2:dF (xs.length+1-k) (xs.length+1-(k+1))=xs.length-k:=by
   rw[show xs.length+1-(k+1)=xs.length-k by omega];exact p0 (by omega)
  rw[m2];have Y:SRow h (some ⟨b,0+k*1,none⟩) ((xs.length-k)*1) B:=kZ hc t (by
   rw[aI,aH,←j,iw,←t,jQ])
  refine kN Y g hc (by simp only[ah,j,t];omega) fun h1 V L=>⟨by omega,?_⟩
  rw[m1];have xr1:SRow h1 (some ⟨m,0,none⟩) (1*1) X:=kZ (L.get D N) (by rw[c]) (by rw[cM,bI];rw[c];omega);refine kN xr1 z V (by simp only[ah,aL,aR,j,t];omega) fun h2 hb2 hu2=>?_
  refine hK _ _ ⟨by simp;omega,sF,G,.inr ⟨b,d.drop 1,rfl,n,?_,?_⟩⟩ ((L.mono fun _ e=>.inl (e▸n)).tr (hu2.mono fun _ e=>.inl (e▸n)))
  ·rw[hb2,a]
   have:=NV (A:=A) (X:=X) (B:=B) (R:=d) (q:=1) (r:=(xs.length-k)*1) j t hrl;rw[←this];simp only[aI,fU]
  ·rw[aR,hr]
   simp only;rw[u];omega
abbrev vR(x:Option Addr):List Value:= [.pointer x]
theorem oz(x:Option Addr):(vR x).length=1∧0<1:=⟨rfl,by omega⟩
theorem ES:∀xs:List (Option Addr),cj (xs.flatMap vR)=true
 | []=>rfl
 |x::xs=>by rw[bD];exact md rfl (ES xs)
theorem JI{h:ad}{a b o e d c f:Nat}{i cw:Array Value}{k tb:TypeId}(g:h[a]? =some (.cells i k (0,0))) (n:h[b]? =some (.cells cw tb (0,0))) (m:a≠b) (p:cw.size≠0) {K:Bool→ad→Prop} (q:K false h):
  HC PG gf [.slice (some ⟨a,0,none⟩) e d,.slice (some ⟨b,o,none⟩) c f] [.c .bool] K h:=by
 refine⟨fun w j=>.inr ⟨.bool false,w,?_,Tame.refl w,false,rfl,j▸q⟩⟩
 subst j;rw[pT];have:=Lib.run_overlaps_apart (P:=PG) w pG lF bA (by kernel_rfl) (bT PG bA) (qD (by kernel_rfl)) ⟨a,0,none⟩ ⟨b,o,none⟩ e d c f m k tb i.size cw.size
  (by simp[World.shape?,g]) (by simp[World.shape?,n]) p (by simp[World.frozen?,g]) (by simp[World.frozen?,g])
 rw[show([Value.slice (some ⟨a,0,none⟩) e d,Value.slice (some ⟨b,o,none⟩) c f]:List Value).toArray= #[.slice (some ⟨a,0,none⟩) e d,.slice (some ⟨b,o,none⟩) c f]from rfl,this]
 rfl
set_option maxRecDepth 4000 in
theorem NS{M:Nat→Prop}{h:ad}{s:SliceV}{xs:List (Option Addr)}(U:OwnS vR 1 bA M h s xs){k:Nat}(hkl:k≤xs.length)(hn:(xs.length+1)*8≤140737488355328){x:Option Addr}{m:Nat}(D:h[m]? =some (.cells (vR x).toArray bA (0,0)))
  (hvM:¬M m) (hM:∀b,h.size≤b→M b) {K:SliceV→ad→Prop} (hK:∀s' h',OwnS vR 1 bA M h' s' (xs.take k++x::xs.drop k)→Upd M h h'→K s' h'):
  HC PG dQ [.slice s.a s.len s.cap,.int .i64 k,.slice (some ⟨m,0,none⟩) 1 1] [.c .slice] K h:=by
 refine jT s k ⟨some ⟨m,0,none⟩,1,1⟩ ?_;unfold fx;have u:=U.len;have hcap:=U.cap;have I:SRow h (some ⟨m,0,none⟩) (1*1) (vR x):=⟨rfl,.inr ⟨_,rfl,qc D fun i v hi=>by simpa using hi⟩⟩
 refine⟨by omega,aj.2 ?_⟩;refine CondP.intro (fun e=>?_) fun e=>?_
 ·have e:k=xs.length:=by have:=of_decide_eq_true (by simpa using e:decide ((k:Int)=(s.len:Int))=true);omega
  subst e;refine⟨_,I,AppP.own (ys:= [x]) U rfl (by simp) rfl rfl (by omega) (by simp;omega) (hM _ (ax _)) fun s' h' ho hu=>hK s' h' ?_ hu⟩
  rw[bf,List.drop_length];exact ho
 have hlt:k<xs.length:=by
  rcases co k xs.length with h|h
  ·exact h
  ·have:((k:Int)==(s.len:Int))=true:=by rw[beq_iff_eq];omega
   rw[this]at e;cases e
 rcases U.blk with h0|⟨b,d,ha,n,hc,hr⟩
 ·omega
 have j:((xs.take k).flatMap vR).length=k*1:=by rw[jj oz,aL,bQ hkl]
 have t:((xs.drop k).flatMap vR).length=(xs.length-k)*1:=by rw[jj oz,aR]
 have N:m≠b:=fun e=>hvM (e▸n)
 rw[yd (f:=vR) xs k]at hc;have a:(xs.take k++x::xs.drop k).flatMap vR=(xs.take k).flatMap vR++(vR x++(xs.drop k).flatMap vR):=by rw[cn,bD]
 have g:=ES (xs.drop k);have c:(vR x).length=1:=rfl;have z:cj (vR x)=true:=rfl;generalize hAe:(xs.take k).flatMap vR=A at j hc a;generalize hBe:(xs.drop k).flatMap vR=B at t hc a g;generalize vR x=X at I c D a z;rw[ha];have w1:ac .i64 ((xs.length:Int)+((1:Nat):Int))=((xs.length+1:Nat):Int):=by rw[lz (by omega)];omega
 have w2:ac .i64 ((k:Int)+((1:Nat):Int))=((k+1:Nat):Int):=by rw[lz (by omega)];omega
 have w3:ac .i64 (((xs.length+1:Nat):Int)-(k:Int))=((xs.length+1-k:Nat):Int):=by rw[lz (by omega)];omega
 simp only[w1,w2,w3,ai,u];refine aK (fun hgt=>?_) fun hle=>?_
 ·
  have G:s.cap=xs.length:=by omega
  refine Join.plain ⟨by omega,⟨by omega,by omega,by omega,by omega⟩,fun hin=>?_,fun J=>?_⟩
  ·omega
  ·refine⟨A,_,?_,rfl,by omega,Go.growslice_fits J (by omega),fun E w=>?_⟩
   ·rw[sub_zero]
    exact kZ hc (by rw[j];omega) (by simp only[cM,ep];rw[aH,←j,eY (ax _),bf])
   ·simp only[ai]at w⊢
    have T:=Upd.hnew No h (A++de (xs.length+1-k) [.pointer none]++de (E-(k-0+(xs.length+1-k))) [.pointer none]) bA;have bn:=bG h (A++de (xs.length+1-k) [.pointer none]++de (E-(k-0+(xs.length+1-k))) [.pointer none]) bA;have y:(de (xs.length+1-k) [.pointer none]).length=(xs.length+1-k)*1:=lA _ _;have W:(de (E-(k-0+(xs.length+1-k))) [.pointer none]).length=(E-(k-0+(xs.length+1-k)))*1:=lA _ _
    have o:k-0+(xs.length+1-k)=xs.length+1:=by omega
    rw[cV];have hsz:h.size≠m:=fun e=>by have:=bv D;omega
    have H:h.size≠b:=fun e=>by have:=bv hc;omega
    have S:=T.get0 hc;have O:=T.get0 D;generalize hnew h _ bA=h9 at T bn S O;rw[o]at w W⊢;have m1:dF 1 (xs.length+1-k)=1:=bQ (by omega);have m2:dF (xs.length-k) (xs.length+1-(k+1))=xs.length-k:=bQ (by omega);rw[m1];have xr9:SRow h9 (some ⟨m,0,none⟩) (1*1) X:=kZ O (by rw[c]) (by rw[cM,bI];rw[c];omega)
    refine⟨by omega,?_⟩;rw[iM (by omega)];refine kN xr9 z bn (by simp only[ah,j,y];omega) fun Z F p=>⟨by omega,?_⟩
    simp only[Bd];rw[iM (by omega),iM (by omega),m2];refine⟨by omega,?_⟩;have C:=p.get S (fun e=>H e.symm)
    have Y:SRow Z (some ⟨b,0+k*1,none⟩) ((xs.length-k)*1) B:=kZ C t (by
     rw[aI,aH,←j,iw,←t,jQ])
    refine kN Y g F ?_ fun h16 P Q=>?_
    ·simp only[ah,aL,aR,j,y,c];omega
    ·refine hK _ _ ⟨by simp;omega,oz,w,.inr ⟨h.size,de (E-(xs.length+1)) [.pointer none],rfl,hM _ (ax _),?_,by rw[lA];rfl⟩⟩ ((T.wide.trans (M':=(· =h.size)) p fun b n=>.inl (n▸hM _ (ax _))).trans (M':=(· =h.size)) Q fun b n=>.inl (n▸hM _ (ax _)))
     rw[P,a];have:=JR (A:=A) (X:=X) (B:=B) (Z1:=de (xs.length+1-k) [.pointer none]) (Z2:=de (E-(xs.length+1)) [.pointer none]) (r:=(xs.length-k)*1) j c (by rw[y,←fU];congr 1;omega);rw[o,←this];simp only[aI,fU]
 ·have G:xs.length+1≤s.cap:=by omega
  refine⟨by omega,?_⟩;simp only[Bd,ep];rw[sub_zero,iM (show s.cap≠k+1 by omega),iM (show s.cap≠k by omega)]
  refine⟨by omega,?_⟩;have hrl:1≤d.length:=by rw[hr];exact pn _ (by omega)
  refine JI D hc N (by rw[cH,ah];omega) ?_;refine aB.2 ⟨by omega,by omega,?_⟩
  have m1:dF 1 (xs.length+1-k)=1:=bQ (by omega);have m2:dF (xs.length+1-k) (xs.length+1-(k+1))=xs.length-k:=by
   rw[show xs.length+1-(k+1)=xs.length-k by omega];exact p0 (by omega)
  rw[m2];have Y:SRow h (some ⟨b,0+k*1,none⟩) ((xs.length-k)*1) B:=kZ hc t (by
   rw[aI,aH,←j,iw,←t,jQ])
  refine kN Y g hc (by simp only[ah,j,t];omega) fun h1 V L=>⟨by omega,?_⟩
  rw[m1];have xr1:SRow h1 (some ⟨m,0,none⟩) (1*1) X:=kZ (L.get D N) (by rw[c]) (by rw[cM,bI];rw[c];omega);refine kN xr1 z V (by simp only[ah,aL,aR,j,t];omega) fun h2 hb2 hu2=>?_
  refine hK _ _ ⟨by simp;omega,oz,G,.inr ⟨b,d.drop 1,rfl,n,?_,?_⟩⟩ ((L.mono fun _ e=>.inl (e▸n)).tr (hu2.mono fun _ e=>.inl (e▸n)))
  ·rw[hb2,a]
   have:=NV (A:=A) (X:=X) (B:=B) (R:=d) (q:=1) (r:=(xs.length-k)*1) j t hrl;rw[←this];simp only[aI,fU]
  ·rw[aR,hr]
   simp only;rw[u];omega
end Go.Proofs
namespace Go.Proofs
open Go Go.Lift
theorem yJ{W:Nat→Prop}{h:ad}{s:SliceV}{xs:List (ByteArray×ByteArray)}(c:Sl kK 2 W h s xs)(i:xs.length*32≤140737488355328){K:SliceV→ad→Prop}
  (g:∀s' h',OwnS kK 2 au (fun b=>h.size≤b) h' s' xs→Upd No h h'→K s' h'):HC PG cT [.slice s.a s.len s.cap] [.c .slice] K h:=by
 refine mQ s ?_;unfold gU rV;refine CondP.intro (fun d=>?_) (fun m=>?_)
 ·have d:s.a=none:=by simpa using d
  have hx:xs= []:=by
   by_cases hx:xs= []
   ·exact hx
   ·obtain⟨a,e,_⟩:=c.row hx
    rw[d]at e;cases e
  subst hx;exact g _ _ (OwnS.nil ko) (Upd.refl _ _)
 ·have o:=c.upd (Upd.hnew No h [] au) (fun _ h=>h.elim)
  refine⟨_,o.srow,?_⟩;refine AppP.own (f:=kK) (M:=fun b=>h.size≤b) (xs:= []) (ys:=xs) ⟨rfl,ko,ax _,.inl rfl⟩ c.len rfl (yD xs) rfl (by omega) (by simpa using i) (by rw[fM];omega) fun s' h' n k=>?_
  exact g _ _ n ((Upd.hnew No h [] au).trans k fun b j=>.inr j)
theorem Od{M:Nat→Prop}{h:ad}{s:SliceV}{xs:List (ByteArray×ByteArray)}(z:OwnS kK 2 au M h s xs){k:Nat}(u:k<xs.length)(L:xs.length≤4398046511104)
  {K:SliceV→ad→Prop}(I:∀s' h',OwnS kK 2 au M h' s' (xs.take k++xs.drop (k+1))→Upd M h h'→K s' h'):
  HC PG eO [.slice s.a s.len s.cap,.int .i64 k,.int .i64 ((k+1:Nat):Int)] [.c .slice] K h:=by
 refine mu s k ((k+1:Nat):Int) ?_;unfold gH rV;have f:=z.len;have C:=z.cap;rcases z.blk with N|⟨b,a,E,w,hc,H⟩
 ·omega
 have p:((xs.take k).flatMap kK).length=k*2:=by rw[jj ko,aL,bQ (by omega)]
 have m:((xs.drop (k+1)).flatMap kK).length=(xs.length-(k+1))*2:=by rw[jj ko,aR]
 have e1:xs.flatMap kK=(xs.take k).flatMap kK++(kK xs[k]++(xs.drop (k+1)).flatMap kK):=by
  rw[←bD,←eU u];exact yd xs k
 rw[e1]at hc;have d:=yD (xs.drop (k+1));have c:(xs.take k++xs.drop (k+1)).flatMap kK=(xs.take k).flatMap kK++(xs.drop (k+1)).flatMap kK:=cn;have F:(kK xs[k]).length=2:=rfl;generalize (xs.take k).flatMap kK=A at p hc c;generalize (xs.drop (k+1)).flatMap kK=B at m hc d c;generalize kK xs[k]=X at F hc;rw[E];simp only[f,ai];refine⟨by omega,by omega,by omega,CondP.intro (fun e=>?_) fun _=>?_⟩
 ·have:(k:Int)=((k+1:Nat):Int):=by simpa using e
  omega
 refine Join.plain ⟨by omega,by omega,B,?_,?_⟩
 ·by_cases i:xs.length=k+1
  ·exact⟨m,.inl (bJ.1 (by rw[m,i,si,wI]))⟩
  rw[iM (by omega)];refine kZ hc m ?_;have:(A++X).length=0+(k+1)*2:=by rw[ah];omega
  rw[show A++(X++B)++a=(A++X)++(B++a) by simp only[aH],cp this,cK m]
 ·rw[sub_zero]
  refine Om hc (by simp only[ah];omega) (by omega) d fun O j v=>?_
  have y:a.length=(s.cap-xs.length)*2:=by rw[H,f]
  refine⟨by dsimp only;omega,by dsimp only;omega,?_⟩
  simp only[Bd];rw[iM (by omega)];have J:xs.length-(k-0+(xs.length-(k+1)))=1:=by omega
  have q:(A++(X++B)++a).drop ((k-0)*2+B.length)=(X++B).drop B.length++a:=by
   rw[aH,←cU,cp (show A.length=(k-0)*2 by rw[p,ep]),eZ (by rw[ah];omega)]
  have t:(A++(X++B)++a).take ((k-0)*2)=A:=by rw[aH,cK (show A.length=(k-0)*2 by rw[p,ep])]
  rw[q,t]at j;have o:((X++B).drop B.length).length=2:=by rw[aR,ah];omega
  generalize (X++B).drop B.length=D at o j;rw[J];have G:(de 1 [.string (⟨#[]⟩:ByteArray),.string (⟨#[]⟩:ByteArray)]).length=2:=rfl;have g:(A++B).length=0+(k-0+(xs.length-(k+1)))*2:=by rw[ah,p,m];omega
  refine ER j (by simp only[ah]at g⊢;omega) fun P n x=>?_
  rw[cK g,←cU,cp g]at n;refine I _ _ ⟨by simp;omega,ko,by simp only;omega,.inr ⟨b,de 1 [.string (⟨#[]⟩:ByteArray),.string (⟨#[]⟩:ByteArray)]++(D++a).drop (de 1 [.string (⟨#[]⟩:ByteArray),.string (⟨#[]⟩:ByteArray)]).length,rfl,w,?_,?_⟩⟩ ((v.mono fun _ e=>.inl (e▸w)).tr (x.mono fun _ e=>.inl (e▸w)))
  ·rw[n,c];simp only[aH]
  ·simp only[ah,aR,G,o,y]
   omega
theorem I8{W:Nat→Prop}{h:ad}{s:SliceV}{xs:List (Option Addr)}(c:Sl tP 1 W h s xs)(i:xs.length*8≤140737488355328){K:SliceV→ad→Prop}
  (g:∀s' h',OwnS tP 1 bK (fun b=>h.size≤b) h' s' xs→Upd No h h'→K s' h'):HC PG ec [.slice s.a s.len s.cap] [.c .slice] K h:=by
 refine lg s ?_;unfold ga;refine CondP.intro (fun d=>?_) (fun m=>?_)
 ·have d:s.a=none:=by simpa using d
  have hx:xs= []:=by
   by_cases hx:xs= []
   ·exact hx
   ·obtain⟨a,e,_⟩:=c.row hx
    rw[d]at e;cases e
  subst hx;exact g _ _ (OwnS.nil sF) (Upd.refl _ _)
 ·have o:=c.upd (Upd.hnew No h [] bK) (fun _ h=>h.elim)
  refine⟨_,o.srow,?_⟩;refine AppP.own (f:=tP) (M:=fun b=>h.size≤b) (xs:= []) (ys:=xs) ⟨rfl,sF,ax _,.inl rfl⟩ c.len rfl (ET xs) rfl (by omega) (by simpa using i) (by rw[fM];omega) fun s' h' n k=>?_
  exact g _ _ n ((Upd.hnew No h [] bK).trans k fun b j=>.inr j)
theorem Oe{M:Nat→Prop}{h:ad}{s:SliceV}{xs:List (Option Addr)}(z:OwnS tP 1 bK M h s xs){k:Nat}(u:k<xs.length)(L:xs.length≤4398046511104)
  {K:SliceV→ad→Prop}(I:∀s' h',OwnS tP 1 bK M h' s' (xs.take k++xs.drop (k+1))→Upd M h h'→K s' h'):
  HC PG dV [.slice s.a s.len s.cap,.int .i64 k,.int .i64 ((k+1:Nat):Int)] [.c .slice] K h:=by
 refine kQ s k ((k+1:Nat):Int) ?_;unfold fT;have f:=z.len;have C:=z.cap;rcases z.blk with N|⟨b,a,E,w,hc,H⟩
 ·omega
 have p:((xs.take k).flatMap tP).length=k*1:=by rw[jj sF,aL,bQ (by omega)]
 have m:((xs.drop (k+1)).flatMap tP).length=(xs.length-(k+1))*1:=by rw[jj sF,aR]
 have e1:xs.flatMap tP=(xs.take k).flatMap tP++(tP xs[k]++(xs.drop (k+1)).flatMap tP):=by
  rw[←bD,←eU u];exact yd xs k
 rw[e1]at hc;have d:=ET (xs.drop (k+1));have c:(xs.take k++xs.drop (k+1)).flatMap tP=(xs.take k).flatMap tP++(xs.drop (k+1)).flatMap tP:=cn;have F:(tP xs[k]).length=1:=rfl;generalize (xs.take k).flatMap tP=A at p hc c;generalize (xs.drop (k+1)).flatMap tP=B at m hc d c;generalize tP xs[k]=X at F hc;rw[E];simp only[f,ai];refine⟨by omega,by omega,by omega,CondP.intro (fun e=>?_) fun _=>?_⟩
 ·have:(k:Int)=((k+1:Nat):Int):=by simpa using e
  omega
 refine Join.plain ⟨by omega,by omega,B,?_,?_⟩
 ·by_cases i:xs.length=k+1
  ·exact⟨m,.inl (bJ.1 (by rw[m,i,si,wI]))⟩
  rw[iM (by omega)];refine kZ hc m ?_;have:(A++X).length=0+(k+1)*1:=by rw[ah];omega
  rw[show A++(X++B)++a=(A++X)++(B++a) by simp only[aH],cp this,cK m]
 ·rw[sub_zero]
  refine Om hc (by simp only[ah];omega) (by omega) d fun O j v=>?_
  have y:a.length=(s.cap-xs.length)*1:=by rw[H,f]
  refine⟨by dsimp only;omega,by dsimp only;omega,?_⟩
  simp only[Bd];rw[iM (by omega)];have J:xs.length-(k-0+(xs.length-(k+1)))=1:=by omega
  have q:(A++(X++B)++a).drop ((k-0)*1+B.length)=(X++B).drop B.length++a:=by
   rw[aH,←cU,cp (show A.length=(k-0)*1 by rw[p,ep]),eZ (by rw[ah];omega)]
  have t:(A++(X++B)++a).take ((k-0)*1)=A:=by rw[aH,cK (show A.length=(k-0)*1 by rw[p,ep])]
  rw[q,t]at j;have o:((X++B).drop B.length).length=1:=by rw[aR,ah];omega
  generalize (X++B).drop B.length=D at o j;rw[J];have G:(de 1 [.pointer none]).length=1:=rfl;have g:(A++B).length=0+(k-0+(xs.length-(k+1)))*1:=by rw[ah,p,m];omega
  refine ER j (by simp only[ah]at g⊢;omega) fun P n x=>?_
  rw[cK g,←cU,cp g]at n;refine I _ _ ⟨by simp;omega,sF,by simp only;omega,.inr ⟨b,de 1 [.pointer none]++(D++a).drop (de 1 [.pointer none]).length,rfl,w,?_,?_⟩⟩ ((v.mono fun _ e=>.inl (e▸w)).tr (x.mono fun _ e=>.inl (e▸w)))
  ·rw[n,c];simp only[aH]
  ·simp only[ah,aR,G,o,y]
   omega
theorem QD{W:Nat→Prop}{h:ad}{s:SliceV}{xs:List (Option Addr)}(c:Sl vR 1 W h s xs)(i:xs.length*8≤140737488355328){K:SliceV→ad→Prop}
  (g:∀s' h',OwnS vR 1 bA (fun b=>h.size≤b) h' s' xs→Upd No h h'→K s' h'):HC PG dT [.slice s.a s.len s.cap] [.c .slice] K h:=by
 refine kC s ?_;unfold fH;refine CondP.intro (fun d=>?_) (fun m=>?_)
 ·have d:s.a=none:=by simpa using d
  have hx:xs= []:=by
   by_cases hx:xs= []
   ·exact hx
   ·obtain⟨a,e,_⟩:=c.row hx
    rw[d]at e;cases e
  subst hx;exact g _ _ (OwnS.nil oz) (Upd.refl _ _)
 ·have o:=c.upd (Upd.hnew No h [] bA) (fun _ h=>h.elim)
  refine⟨_,o.srow,?_⟩;refine AppP.own (f:=vR) (M:=fun b=>h.size≤b) (xs:= []) (ys:=xs) ⟨rfl,oz,ax _,.inl rfl⟩ c.len rfl (ES xs) rfl (by omega) (by simpa using i) (by rw[fM];omega) fun s' h' n k=>?_
  exact g _ _ n ((Upd.hnew No h [] bA).trans k fun b j=>.inr j)
theorem Oc{M:Nat→Prop}{h:ad}{s:SliceV}{xs:List (Option Addr)}(z:OwnS vR 1 bA M h s xs){k:Nat}(u:k<xs.length)(L:xs.length≤4398046511104)
  {K:SliceV→ad→Prop}(I:∀s' h',OwnS vR 1 bA M h' s' (xs.take k++xs.drop (k+1))→Upd M h h'→K s' h'):
  HC PG dR [.slice s.a s.len s.cap,.int .i64 k,.int .i64 ((k+1:Nat):Int)] [.c .slice] K h:=by
 refine jU s k ((k+1:Nat):Int) ?_;unfold fy;have f:=z.len;have C:=z.cap;rcases z.blk with N|⟨b,a,E,w,hc,H⟩
 ·omega
 have p:((xs.take k).flatMap vR).length=k*1:=by rw[jj oz,aL,bQ (by omega)]
 have m:((xs.drop (k+1)).flatMap vR).length=(xs.length-(k+1))*1:=by rw[jj oz,aR]
 have e1:xs.flatMap vR=(xs.take k).flatMap vR++(vR xs[k]++(xs.drop (k+1)).flatMap vR):=by
  rw[←bD,←eU u];exact yd xs k
 rw[e1]at hc;have d:=ES (xs.drop (k+1));have c:(xs.take k++xs.drop (k+1)).flatMap vR=(xs.take k).flatMap vR++(xs.drop (k+1)).flatMap vR:=cn;have F:(vR xs[k]).length=1:=rfl;generalize (xs.take k).flatMap vR=A at p hc c;generalize (xs.drop (k+1)).flatMap vR=B at m hc d c;generalize vR xs[k]=X at F hc;rw[E];simp only[f,ai];refine⟨by omega,by omega,by omega,CondP.intro (fun e=>?_) fun _=>?_⟩
 ·have:(k:Int)=((k+1:Nat):Int):=by simpa using e
  omega
 refine Join.plain ⟨by omega,by omega,B,?_,?_⟩
 ·by_cases i:xs.length=k+1
  ·exact⟨m,.inl (bJ.1 (by rw[m,i,si,wI]))⟩
  rw[iM (by omega)];refine kZ hc m ?_;have:(A++X).length=0+(k+1)*1:=by rw[ah];omega
  rw[show A++(X++B)++a=(A++X)++(B++a) by simp only[aH],cp this,cK m]
 ·rw[sub_zero]
  refine Om hc (by simp only[ah];omega) (by omega) d fun O j v=>?_
  have y:a.length=(s.cap-xs.length)*1:=by rw[H,f]
  refine⟨by dsimp only;omega,by dsimp only;omega,?_⟩
  simp only[Bd];rw[iM (by omega)];have J:xs.length-(k-0+(xs.length-(k+1)))=1:=by omega
  have q:(A++(X++B)++a).drop ((k-0)*1+B.length)=(X++B).drop B.length++a:=by
   rw[aH,←cU,cp (show A.length=(k-0)*1 by rw[p,ep]),eZ (by rw[ah];omega)]
  have t:(A++(X++B)++a).take ((k-0)*1)=A:=by rw[aH,cK (show A.length=(k-0)*1 by rw[p,ep])]
  rw[q,t]at j;have o:((X++B).drop B.length).length=1:=by rw[aR,ah];omega
  generalize (X++B).drop B.length=D at o j;rw[J];have G:(de 1 [.pointer none]).length=1:=rfl;have g:(A++B).length=0+(k-0+(xs.length-(k+1)))*1:=by rw[ah,p,m];omega
  refine ER j (by simp only[ah]at g⊢;omega) fun P n x=>?_
  rw[cK g,←cU,cp g]at n;refine I _ _ ⟨by simp;omega,oz,by simp only;omega,.inr ⟨b,de 1 [.pointer none]++(D++a).drop (de 1 [.pointer none]).length,rfl,w,?_,?_⟩⟩ ((v.mono fun _ e=>.inl (e▸w)).tr (x.mono fun _ e=>.inl (e▸w)))
  ·rw[n,c];simp only[aH]
  ·simp only[ah,aR,G,o,y]
   omega
end Go.Proofs
namespace Go.Proofs
open Go.Lift
abbrev Pr:=ByteArray×ByteArray
theorem Db{a b:ByteArray}:a.toList=b.toList↔a=b:=by
 constructor
 ·intro h
  rw[ByteArray.toList_eq,ByteArray.toList_eq]at h;cases a;cases b;simp at h;subst h;rfl
 ·rintro rfl;rfl
def kl(a b:ByteArray):Prop:=cR a.toList b.toList=true
instance (a b:ByteArray):Decidable (kl a b):=inferInstanceAs (Decidable (_=true))
theorem Sz{a b:ByteArray}:kl a b↔a.toList<b.toList:=by unfold kl;rw[bytesLess_eq,decide_eq_true_iff]
theorem eN(a:ByteArray):¬kl a a:=by rw[Sz];exact List.lt_irrefl _
theorem qC{a b c:ByteArray}(h:kl a b)(k:kl b c):kl a c:=by rw[Sz]at*;exact List.lt_trans h k
theorem tri:∀x y:List UInt8,cR x y=false→x≠y→cR y x=true
 | [],[],_,h=>absurd rfl h
 | [],_::_,h,_=>by simp[cR]at h
 |_::_,[],_,_=>rfl
 |a::x,b::y,h,hn=>by
  simp only[cR,Bool.or_eq_false_iff,decide_eq_false_iff_not,Bool.and_eq_false_iff]at h;simp only[cR,Bool.or_eq_true,decide_eq_true_iff,Bool.and_eq_true];by_cases e:a=b
  ·subst e
   right;refine⟨by simp,tri x y ?_ fun e=>hn (by rw[e])⟩
   rcases h.2 with h|h
   ·simp at h
   ·exact h
  ·left
   have c:=h.1;rw[UInt8.lt_iff_toNat_lt]at c⊢;have:a.toNat≠b.toNat:=fun h=>e (UInt8.toNat_inj.1 h)
   omega
theorem FY{a b:ByteArray}(h:¬kl a b)(k:a≠b):kl b a:=tri _ _ (by unfold kl at h;simpa using h) fun e=>k (Db.1 e)
def Kf(a b:ByteArray):Int:=if kl a b then-1 else if a=b then 0 else 1
theorem LV{x:ByteArray}{h:ad}{K:Bool→ad→Prop}(a:K false h):HC PG nD [.string x] [.c .bool] K h:=by
 refine EH x ?_;unfold w9;simpa using a
theorem Gv{a b:ByteArray}{h:ad}{K:Int→ad→Prop}(c:K (Kf a b) h):HC PG lv [.string a,.string b] [.c (.int .i64)] K h:=by
 refine Cd a b ?_;unfold uD;refine LV (LV (aj.2 (aj.2 ?_)));unfold Kf at c;refine CondP.intro (fun e=>?_) fun e=>?_
 ·rw[if_pos (show kl a b from e)]at c;exact c
 ·have d:¬kl a b:=fun h=>by rw[show cR a.toList b.toList=true from h]at e;cases e
  rw[if_neg d]at c;rw[e];refine CondP.intro (fun e2=>?_) fun e2=>?_
  ·rw[if_neg (fun h=>by subst h;simp at e2)]at c;exact c
  ·have:a.toList=b.toList:=by simpa using e2
   rw[if_pos (Db.1 this)]at c;exact c
theorem Sk{p:Pr}{k:ByteArray}{h:ad}{K:Int→ad→Prop}(a:∀h',Upd No h h'→K (Kf p.1 k) h'):HC PG r7 [.agg #[.string p.1,.string p.2],.string k] [.c (.int .i64)] K h:=by
 refine Ky p k ?_;unfold Cm aq kf A0;have b1:=bG h [.string p.1,.string p.2] au;refine⟨p.1,by rw[cV,cc,aP b1];rfl,Gv (a _ (Upd.hnew No h _ _))⟩
abbrev eH(l:List Pr):Prop:=l.Pairwise fun p q=>kl p.1 q.1
def pos(l:List Pr)(k:ByteArray):Nat:=(l.takeWhile fun p=>decide (kl p.1 k)).length
def cu(l:List Pr)(k:ByteArray):Bool:=l.any fun p=>decide (p.1=k)
theorem Sf{l:List Pr}{k:ByteArray}{i:Nat}(hi:i≤l.length)(a:∀j (h:j<l.length),j<i→kl l[j].1 k)(b:∀(h:i<l.length),¬kl l[i].1 k):pos l k=i:=by
 unfold pos;induction l generalizing i with
 |nil=>simp at hi;simp[hi]
 |cons p l ih=>
  rw[List.takeWhile_cons];cases i with
  |zero=>
   have:=b (by simp);simp only[List.getElem_cons_zero]at this;rw[if_neg (by simpa using this)];rfl
  |succ i=>
   have:=a 0 (by simp) (by omega);simp only[List.getElem_cons_zero]at this;rw[if_pos (by simpa using this),List.length_cons];congr 1
   refine ih (by simpa using hi) (fun j c d=>?_) fun h=>?_
   ·have:=a (j+1) (by simpa using c) (by omega)
    simpa using this
   ·have:=b (by simpa using h)
    simpa using this
theorem Sg(l:List Pr)(k:ByteArray):pos l k≤l.length:=by
 unfold pos;exact(List.takeWhile_prefix _).length_le
theorem JY{W:Nat→Prop}{h:ad}{s:SliceV}{l:List Pr}(Y:Sl kK 2 W h s l)(hr:eH l)(hn:l.length≤1000000000)(k:ByteArray){K:Int×Bool→ad→Prop}
  (E:∀h',Upd No h h'→K ((pos l k:Int),cu l k) h'):HC PG qJ [.slice s.a s.len s.cap,.string k] [.c (.int .i64),.c .bool] K h:=by
 refine Mw s k ?_;unfold D9;refine ie s k _ ?_;unfold ez dE bE Bq xn;have X:=Y.len;have H:∀{p:Pr} {h:ad} {K:Int→ad→Prop},(∀h',Upd No h h'→K (Kf p.1 k) h')→HV PG (.func (.func r7) #[] #[]) [.agg #[.string p.1,.string p.2],.string k] [.c (.int .i64)] K h:=fun E=>HV.mk' (Sk E)
 refine LoopP.ghost (fun(g:Nat×Nat) (t:Int×Int) h'=>t.1=(g.1:Int)∧t.2=(g.2:Int)∧g.1≤g.2∧g.2≤l.length∧Upd No h h'∧(∀j (R:j<l.length),j<g.1→kl l[j].1 k)∧(∀j (R:j<l.length),g.2≤j→¬kl l[j].1 k)) (fun g=>g.2-g.1) (0,l.length)
  ⟨rfl,by simp only;omega,by simp,by simp,Upd.refl _ _,fun j R h=>by omega,fun j R h=>by simp only at h;omega⟩ ?_
 rintro I ⟨i,j⟩ ⟨ti,tj⟩ h' ⟨e1,e2,B,C,J,d,v⟩ V;simp only at e1 e2 B C d v;subst e1 e2;have O:=Y.upd J fun _ h=>h.elim
 have mono:∀a b (D:a<l.length) (U:b<l.length),a<b→kl l[a].1 l[b].1:=fun a b D U P=>List.pairwise_iff_getElem.1 hr a b D U P
 refine aK (fun u=>?_) fun T=>?_
 ·have u:i<j:=by have:(i:Int)<(j:Int):=u;omega
  have em:ac .i64 (fK (ac .u64 (ac .i64 ((i:Int)+(j:Int)))) (2^(min (1:Int).toNat (af .u64))))=(((i+j)/2:Nat):Int):=by
   have Z:(2^(min (1:Int).toNat (af .u64)):Int)=2:=rfl;rw[Z,lz (x:=(i:Int)+(j:Int)) (by omega),Go.IntWalk.u64_in _ (by omega),Int.fdiv_eq_ediv_of_nonneg _ (by omega),lz (by omega)];omega
  refine⟨by decide,?_⟩;simp only[Bd];rw[em];generalize hm:(i+j)/2=m;have z:m<l.length:=by omega
  obtain⟨a,D,_,F⟩:=O.at (ag z);refine⟨by omega,a,D,l[m].1,F 0 _ rfl,l[m].2,F 1 _ rfl,H fun h2 w=>?_⟩
  refine aK (fun o=>?_) fun N=>?_
  ·have c:kl l[m].1 k:=by
    unfold Kf at o;by_cases c:kl l[m].1 k
    ·exact c
    ·rw[if_neg c]at o;split at o<;>omega
   refine V (m+1,j) _ _ ⟨by simp only;rw[lz (by omega)];omega,rfl,by simp only;omega,C,J.tr w,fun q y A=>?_,v⟩ (by simp only;omega)
   simp only at A;rcases co q m with h|h
   ·exact qC (mono q m y z h) c
   ·have:q=m:=by omega
    subst this;exact c
  ·have f:¬kl l[m].1 k:=fun c=>N (by unfold Kf;rw[if_pos c];decide)
   refine V (i,m) _ _ ⟨rfl,rfl,by simp only;omega,by simp only;omega,J.tr w,d,fun q y A L=>?_⟩ (by simp only;omega)
   simp only at A;rcases co m q with h|h
   ·exact f (qC (mono m q z y h) L)
   ·have:q=m:=by omega
    subst this;exact f L
 ·have B:i=j:=by have:¬(i:Int)<(j:Int):=T;omega
  subst B;have G:pos l k=i:=Sf C d fun hi=>v i hi (ax _)
  rw[G]at E;refine aK (fun u=>?_) fun Q=>?_
  ·have n:i<l.length:=by have:(i:Int)<(s.len:Int):=u;omega
   obtain⟨a,D,_,F⟩:=O.at (ag n);refine⟨by simp only;omega,a,D,l[i].1,F 0 _ rfl,l[i].2,F 1 _ rfl,H fun h2 w=>?_⟩
   have f:=v i n (ax _);have S:(Kf l[i].1 k==(0:Int))=cu l k:=by
    unfold Kf cu;rw[if_neg f,Bool.eq_iff_iff,List.any_eq_true];constructor
    ·intro h
     split at h
     ·rename_i e;exact⟨l[i],List.getElem_mem n,decide_eq_true e⟩
     ·simp at h
    ·rintro⟨p,G,e⟩
     have e:=of_decide_eq_true e;obtain⟨q,y,rfl⟩:=List.mem_iff_getElem.1 G;have:q=i:=by
      rcases Nat.lt_trichotomy q i with h|h|h
      ·exact absurd (e▸d q y h) (eN _)
      ·exact h
      ·exact absurd (e▸mono i q n y h) f
     subst this;rw[if_pos e];rfl
   rw[S];exact E _ (J.tr w)
  ·have n:i=l.length:=by have:¬(i:Int)<(s.len:Int):=Q;omega
   have S:cu l k=false:=by
    unfold cu;rw[List.any_eq_false];intro p G e;have e:=of_decide_eq_true e;obtain⟨q,y,rfl⟩:=List.mem_iff_getElem.1 G;exact absurd (e▸d q y (by omega)) (eN _)
   rw[S]at E;exact E _ J
end Go.Proofs
