/- A part of the proof that the named laws of this program answer true, whatever the input. -/
import Derived.Shelf.Lays
import Derived.Shelf.LaysM
import Derived.Test.YtopdngagmfanlaaGreatDoorTreeF0
import Derived.Test.YtopdngagmfanlaaGreatDoorTreeF1
import Derived.Test.YtopdngagmfanlaaGreatDoorTreeF2
import Derived.Test.YtopdngagmfanlaaGreatDoorLaw0
import Derived.Test.YtopdngagmfanlaaGreatDoorLift3
import Derived.Lib.Overlaps
import Derived.Sort.Walk0
set_option maxRecDepth 100000
open BitVec renaming ofInt→au
open ByteArray renaming size_extract→p7
open Go.IntKind renaming wrap→ac,bits→ai
open Go.Op renaming bytesLess→cX
open Int renaming fdiv→gy,toNat_natCast→ak
open List renaming flatMap_cons→bK,take_length→bJ,length_take→be,length_drop→aS,flatMap_append→cc,drop_zero→dK,append_assoc→aM,take_append_of_le_length→fJ,take_of_length_le→bG,length_append→aj,drop_left→ju,take_left→kJ,size_toArray→cP,drop_eq_getElem_cons→cF,length_eq_zero_iff→bp,drop_left'→cD,take_left'→cR,drop_drop→cT,drop_append_of_le_length→fK,getElem?_eq_getElem→ah
open Nat renaming beq→az,zero_add→aR,sub_self→td,le_refl→av,lt_or_ge→cC,min_eq_left→bU,sub_zero→eP,min→dQ,add_one_mul→gJ,le_mul_of_pos_left→pZ,min_eq_right→qJ,zero_mul→xV
namespace Go.Proofs
open Go Go.Lift Go.Shelf
def Lo:Ren:=⟨fun n=>bif az n 129 then 130 else bif az n 137 then 37 else bif az n 138 then 113 else bif az n 143 then 114 else bif az n 195 then 136 else bif az n 217 then 70 else bif az n 218 then 137 else bif az n 219 then 138 else bif az n 224 then 192 else bif az n 225 then 191 else bif az n 240 then 74 else bif az n 266 then 96 else bif az n 267 then 193 else bif az n 276 then 107 else bif az n 283 then 103 else bif az n 284 then 104 else bif az n 285 then 105 else bif az n 314 then 269 else bif az n 317 then 129 else bif az n 318 then 131 else 0,
 fun n=>bif az n 0 then 0 else bif az n 3 then 3 else bif az n 4 then 4 else bif az n 5 then 5 else bif az n 9 then 9 else bif az n 20 then 20 else bif az n 37 then 95 else bif az n 46 then 32 else bif az n 51 then 23 else bif az n 53 then 52 else bif az n 70 then 103 else bif az n 72 then 105 else bif az n 146 then 335 else bif az n 164 then 168 else bif az n 212 then 202 else 0,
 fun n=>bif az n 1 then 0 else bif az n 17 then 3 else 0⟩
theorem A5:Lays.n240 PG Lo:=by constructor<;>first|kernel_rfl|(intro w;kernel_rfl)
theorem Jf:Lays.n138 PG Lo:=by constructor<;>first|kernel_rfl|(intro w;kernel_rfl)
theorem Je:Lays.n143 PG Lo:=by constructor<;>first|kernel_rfl|(intro w;kernel_rfl)
theorem Jg:Lays.n137 PG Lo:=by constructor<;>first|kernel_rfl|(intro w;kernel_rfl)
theorem Ja:Lays.n284 PG Lo:=by constructor<;>first|kernel_rfl|(intro w;kernel_rfl)
theorem Ht:LaysM.n284 PG Lo:=by constructor<;>first|exact Ja|kernel_rfl|(intro w;kernel_rfl)
theorem I7:Lays.n285 PG Lo:=by constructor<;>first|kernel_rfl|(intro w;kernel_rfl)
theorem Jb:Lays.n283 PG Lo:=by constructor<;>first|kernel_rfl|(intro w;kernel_rfl)
end Go.Proofs
namespace Go.Proofs
open Go.Lift
theorem PI(n:Int):0≤ac .u64 n∧ac .u64 n<18446744073709551616:=by rw[IntKind.wrap_u64];omega
theorem kO{x:Int}(h: -4611686018427387904≤x∧x≤4611686018427387904):ac .i64 x=x:=Go.IntWalk.i64_in _ (by omega)
theorem cM{i n:Nat}(h:i<n)(a:n≤4611686018427387904):ac .i64 ((i:Int)+1)=((i+1:Nat):Int):=by rw[kO (by omega)];omega
theorem vS{h:ad}{b i:Nat}{c:Array Value}{t:TypeId}{v:Value}{k:ad→Prop}(a:h[b]? =some (.cells c t (0,0)))
  (d:∀h',h'[b]? =some (.cells (c.setIfInBounds i v) t (0,0))→Upd (· =b) h h'→k h'):At (hset h ⟨b,i,none⟩ v) k:=by
 refine d _ ?_ (Upd.hset _ _ rfl);rw[HF a,jx a]
def WF(a b:Int):Int:=ac .u64 (au (ai .u64) a&&&au (ai .u64) b).toNat
def gD(a b:Int):Int:=ac .u64 (au (ai .u64) a^^^au (ai .u64) b).toNat
def Vu(a b:Int):Int:=ac .u64 (au (ai .u64) a|||au (ai .u64) b).toNat
def PX(x n:Int):Int:=
 Vu (ac .u64 (x*2^(min (WF (ac .u64 n) 63).toNat (ai .u64)))) (gy x (2^(min (ac .u64 (64-WF (ac .u64 n) 63)).toNat (ai .u64))))
theorem Eg{x n:Int}{h:ad}{K:Int→ad→Prop}(a:K (PX x n) h):HC PG dh [.int .u64 x,.int .i64 n] [.c (.int .u64)] K h:=by
 refine vY x n ?_;unfold oA;exact⟨(PI _).1,(PI _).1,a⟩
abbrev Q4:=Int×Int×Int×Int
def q4(s:Q4):Array Value:= #[.int .u64 s.1,.int .u64 s.2.1,.int .u64 s.2.2.1,.int .u64 s.2.2.2]
def Yd(a b:Int):Int:=ac .u64 (a+b)
def WW(s:Q4):Q4:=(Yd s.1 s.2.1,s.2)
def Xp(s:Q4):Q4:=(s.1,gD (PX s.2.1 13) s.1,s.2.2)
def Yl(s:Q4):Q4:=(PX s.1 32,s.2)
def YR(s:Q4):Q4:=(s.1,s.2.1,Yd s.2.2.1 s.2.2.2,s.2.2.2)
def Zr(s:Q4):Q4:=(s.1,s.2.1,s.2.2.1,gD (PX s.2.2.2 16) s.2.2.1)
def ZM(s:Q4):Q4:=(Yd s.1 s.2.2.2,s.2)
def aaw(s:Q4):Q4:=(s.1,s.2.1,s.2.2.1,gD (PX s.2.2.2 21) s.1)
def aaV(s:Q4):Q4:=(s.1,s.2.1,Yd s.2.2.1 s.2.1,s.2.2.2)
def s09(s:Q4):Q4:=(s.1,gD (PX s.2.1 17) s.2.2.1,s.2.2)
def s10(s:Q4):Q4:=(s.1,s.2.1,PX s.2.2.1 32,s.2.2.2)
def PW(s:Q4):Q4:=s10 (s09 (aaV (aaw (ZM (Zr (YR (Yl (Xp (WW s)))))))))
def pz:Nat→Q4→Q4
 |0,s=>s
 |n+1,s=>pz n (PW s)
theorem qs{h:ad}{b i:Nat}{t:TypeId}{s s':Q4}{v:Value}{k:ad→Prop}(f:h[b]? =some (.cells (q4 s) t (0,0))) (e:(q4 s).setIfInBounds i v=q4 s')
  (c:∀h',h'[b]? =some (.cells (q4 s') t (0,0))→Upd (· =b) h h'→k h'):At (hset h ⟨b,i,none⟩ v) k:=
 vS f fun h' a d=>c h' (e▸a) d
theorem JS{n:Nat}(hn:n≤100){h:ad}{b:Nat}{t:TypeId}{s:Q4}(A:h[b]? =some (.cells (q4 s) t (0,0))) {K:Unit→ad→Prop}
  (Q:∀h',h'[b]? =some (.cells (q4 (pz n s)) t (0,0))→Upd (· =b) h h'→K () h'):HC PG jo [.pointer (some ⟨b,0,none⟩),.int .i64 n] [] K h:=by
 refine B1 _ _ ?_;unfold uc bi cU AZ bM;refine LoopP.ghost (fun(g:Nat×Q4) (O:Int) h'=>O=(g.1:Int)∧g.1≤n∧h'[b]? =some (.cells (q4 g.2) t (0,0))∧Upd (· =b) h h'∧pz (n-g.1) g.2=pz n s) (fun g=>n-g.1) (0,s) ⟨rfl,Nat.zero_le _,A,Upd.refl _ _,rfl⟩ ?_
 rintro I ⟨i,d⟩ O h' ⟨P,hi,a,N,x⟩ R;simp only at P hi a x;subst P;refine aF (fun u=>?_) fun T=>?_
 ·have u:i<n:=by omega
  have c:∀{h:ad} {s:Q4} {i:Nat},h[b]? =some (.cells (q4 s) t (0,0))→aD h ⟨b,0+i,none⟩=(q4 s)[i]?:=fun A=>by rw[aR];exact bc A
  have w:∀{h:ad} {s:Q4} {i:Nat},h[b]? =some (.cells (q4 s) t (0,0))→i<4→Wr h ⟨b,0+i,none⟩:=fun A hi=>by rw[aR];exact i5 A hi
  simp only[show((0:Int)).toNat*1=0 from rfl,show((1:Int)).toNat*1=1 from rfl,show((2:Int)).toNat*1=2 from rfl,show((3:Int)).toNat*1=3 from rfl]
  refine⟨_,rfl,by decide,_,c (i:=0) a,_,rfl,by decide,_,c (i:=1) a,_,rfl,by decide,w (i:=0) a (by decide),qs (s':=WW d) a rfl fun V k J=>?_⟩
  refine⟨_,rfl,by decide,_,c (i:=1) k,_,rfl,by decide,_,c (i:=0) k,_,rfl,Eg ⟨c (i:=0) k,by decide,w (i:=1) k (by decide),qs (s':=Xp (WW d)) k rfl fun X v F=>?_⟩⟩
  refine⟨_,rfl,by decide,_,c (i:=0) v,_,rfl,Eg ⟨by decide,w (i:=0) v (by decide),qs (s':=Yl (Xp (WW d))) v rfl fun h4 o C=>?_⟩⟩
  refine⟨_,rfl,by decide,_,c (i:=2) o,_,rfl,by decide,_,c (i:=3) o,_,rfl,by decide,w (i:=2) o (by decide),qs (s':=YR (Yl (Xp (WW d)))) o rfl fun h5 m E=>?_⟩
  refine⟨_,rfl,by decide,_,c (i:=3) m,_,rfl,by decide,_,c (i:=2) m,_,rfl,Eg ⟨c (i:=2) m,by decide,w (i:=3) m (by decide),qs (s':=Zr (YR (Yl (Xp (WW d))))) m rfl fun Y p H=>?_⟩⟩
  refine⟨_,rfl,by decide,_,c (i:=0) p,_,rfl,by decide,_,c (i:=3) p,_,rfl,by decide,w (i:=0) p (by decide),qs (s':=ZM (Zr (YR (Yl (Xp (WW d)))))) p rfl fun W f D=>?_⟩
  refine⟨_,rfl,by decide,_,c (i:=3) f,_,rfl,by decide,_,c (i:=0) f,_,rfl,Eg ⟨c (i:=0) f,by decide,w (i:=3) f (by decide),qs (s':=aaw (ZM (Zr (YR (Yl (Xp (WW d))))))) f rfl fun h8 q L=>?_⟩⟩
  refine⟨_,rfl,by decide,_,c (i:=2) q,_,rfl,by decide,_,c (i:=1) q,_,rfl,by decide,w (i:=2) q (by decide),qs (s':=aaV (aaw (ZM (Zr (YR (Yl (Xp (WW d)))))))) q rfl fun Z e G=>?_⟩
  refine⟨_,rfl,by decide,_,c (i:=1) e,_,rfl,by decide,_,c (i:=2) e,_,rfl,Eg ⟨c (i:=2) e,by decide,w (i:=1) e (by decide),qs (s':=s09 (aaV (aaw (ZM (Zr (YR (Yl (Xp (WW d))))))))) e rfl fun S j B=>?_⟩⟩
  refine⟨_,rfl,by decide,_,c (i:=2) j,_,rfl,Eg ⟨by decide,w (i:=2) j (by decide),qs (s':=PW d) j rfl fun U z y=>?_⟩⟩
  rw[cM u (by omega)];refine R (i+1,PW d) _ _ ⟨rfl,u,z,N.tr (J.tr (F.tr (C.tr (E.tr (H.tr (D.tr (L.tr (G.tr (B.tr y))))))))),?_⟩ (by simp only;omega);simp only;rw[←x,show n-i=(n-(i+1))+1 by omega];rfl
 ·obtain rfl:i=n:=by omega
  rw[td]at x;have x:d=pz i s:=x;rw[←x]at Q;exact Q _ a N
end Go.Proofs
namespace Go.Proofs
open Go.Lift
def X8(s:ByteArray)(i:Nat):Int:=match s[i]? with|some b=>(b.toNat:Int)|none=>0
def aav(b:Int)(n:Int):Int:=ac .u64 ((ac .u64 b)*2^(min n.toNat (ai .u64)))
def wj(s:ByteArray):Nat→Int→Int
 |0,t=>t
 |k+1,t=>wj s k (Vu t (if k=0 then ac .u64 (X8 s 0)else aav (X8 s k) ((8*k:Nat):Int)))
def EX(s:ByteArray):Int:=wj s s.size 0
theorem rz{s:ByteArray}{i:Nat}(h:i<s.size):∃b,s[i]? =some b∧X8 s i=(b.toNat:Int):=⟨s[i],getElem?_pos s i h,by simp[X8,getElem?_pos s i h]⟩
theorem RB{s:ByteArray}(N:s.size≤8){h:ad}{K:Int→ad→Prop}(g:K (EX s) h):HC PG xI [.string s] [.c (.int .u64)] K h:=by
 refine Ra s ?_;unfold Ix;refine Join.intro (fun t h'=>h'=h∧1≤s.size∧wj s 1 t=wj s s.size 0) (fun G q=>?_) ?_
 ·refine Join.intro (fun t h'=>h'=h∧2≤s.size∧wj s 2 t=wj s s.size 0) (fun P j=>?_) ?_
  ·refine Join.intro (fun t h'=>h'=h∧3≤s.size∧wj s 3 t=wj s s.size 0) (fun D p=>?_) ?_
   ·refine Join.intro (fun t h'=>h'=h∧4≤s.size∧wj s 4 t=wj s s.size 0) (fun C o=>?_) ?_
    ·refine Join.intro (fun t h'=>h'=h∧5≤s.size∧wj s 5 t=wj s s.size 0) (fun F k=>?_) ?_
     ·refine Join.intro (fun t h'=>h'=h∧6≤s.size∧wj s 6 t=wj s s.size 0) (fun O n=>?_) ?_
      ·refine Join.intro (fun t h'=>h'=h∧7≤s.size∧wj s 7 t=wj s s.size 0) (fun A m=>?_) ?_
       ·refine CondP.intro (fun e=>?_) fun x=>?_
        ·have e:s.size=8:=by have:=of_decide_eq_true (by simpa using e:decide ((s.size:Int)=8)=true);omega
         obtain⟨b,c,a⟩:=rz (s:=s) (i:=7) (by omega);refine⟨b,by decide,c,by decide,m _ _ ⟨rfl,by omega,?_⟩⟩
         rw[e,←a];rfl
        refine CondP.intro (fun e=>?_) fun z=>?_
        ·have e:s.size=7:=by have:=of_decide_eq_true (by simpa using e:decide ((s.size:Int)=7)=true);omega
         exact m _ _ ⟨rfl,by omega,by rw[e]⟩
        refine CondP.intro (fun e=>?_) fun v=>?_
        ·have e:s.size=6:=by have:=of_decide_eq_true (by simpa using e:decide ((s.size:Int)=6)=true);omega
         exact n _ _ ⟨rfl,by omega,by rw[e]⟩
        refine CondP.intro (fun e=>?_) fun w=>?_
        ·have e:s.size=5:=by have:=of_decide_eq_true (by simpa using e:decide ((s.size:Int)=5)=true);omega
         exact k _ _ ⟨rfl,by omega,by rw[e]⟩
        refine CondP.intro (fun e=>?_) fun y=>?_
        ·have e:s.size=4:=by have:=of_decide_eq_true (by simpa using e:decide ((s.size:Int)=4)=true);omega
         exact o _ _ ⟨rfl,by omega,by rw[e]⟩
        refine CondP.intro (fun e=>?_) fun u=>?_
        ·have e:s.size=3:=by have:=of_decide_eq_true (by simpa using e:decide ((s.size:Int)=3)=true);omega
         exact p _ _ ⟨rfl,by omega,by rw[e]⟩
        refine CondP.intro (fun e=>?_) fun e2=>?_
        ·have e:s.size=2:=by have:=of_decide_eq_true (by simpa using e:decide ((s.size:Int)=2)=true);omega
         exact j _ _ ⟨rfl,by omega,by rw[e]⟩
        refine CondP.intro (fun e=>?_) fun e1=>?_
        ·have e:s.size=1:=by have:=of_decide_eq_true (by simpa using e:decide ((s.size:Int)=1)=true);omega
         exact q _ _ ⟨rfl,by omega,by rw[e]⟩
        have e:s.size=0:=by
         have H:¬(s.size:Int)=1:=by simpa using e1
         have B:¬(s.size:Int)=2:=by simpa using e2
         have J:¬(s.size:Int)=3:=by simpa using u
         have q4:¬(s.size:Int)=4:=by simpa using y
         have L:¬(s.size:Int)=5:=by simpa using w
         have I:¬(s.size:Int)=6:=by simpa using v
         have Q:¬(s.size:Int)=7:=by simpa using z
         have E:¬(s.size:Int)=8:=by simpa using x
         omega
        unfold EX at g;rw[e]at g;exact g
       ·rintro t _ ⟨rfl,d,f⟩
        obtain⟨b,c,a⟩:=rz (s:=s) (i:=6) (by omega);refine⟨b,by decide,c,by decide,n _ _ ⟨rfl,by omega,?_⟩⟩
        rw[←f,←a];rfl
      ·rintro t _ ⟨rfl,d,f⟩
       obtain⟨b,c,a⟩:=rz (s:=s) (i:=5) (by omega);refine⟨b,by decide,c,by decide,k _ _ ⟨rfl,by omega,?_⟩⟩
       rw[←f,←a];rfl
     ·rintro t _ ⟨rfl,d,f⟩
      obtain⟨b,c,a⟩:=rz (s:=s) (i:=4) (by omega);refine⟨b,by decide,c,by decide,o _ _ ⟨rfl,by omega,?_⟩⟩
      rw[←f,←a];rfl
    ·rintro t _ ⟨rfl,d,f⟩
     obtain⟨b,c,a⟩:=rz (s:=s) (i:=3) (by omega);refine⟨b,by decide,c,by decide,p _ _ ⟨rfl,by omega,?_⟩⟩
     rw[←f,←a];rfl
   ·rintro t _ ⟨rfl,d,f⟩
    obtain⟨b,c,a⟩:=rz (s:=s) (i:=2) (by omega);refine⟨b,by decide,c,by decide,j _ _ ⟨rfl,by omega,?_⟩⟩
    rw[←f,←a];rfl
  ·rintro t _ ⟨rfl,d,f⟩
   obtain⟨b,c,a⟩:=rz (s:=s) (i:=1) (by omega);refine⟨b,by decide,c,by decide,q _ _ ⟨rfl,by omega,?_⟩⟩
   rw[←f,←a];rfl
 ·rintro t _ ⟨rfl,d,f⟩
  obtain⟨b,c,a⟩:=rz (s:=s) (i:=0) (by omega);refine⟨b,by decide,c,?_⟩
  unfold EX at g;rw[←f]at g;rw[←a];exact g
end Go.Proofs
namespace Go.Proofs
open Go.Lift
def GU(m:Int)(s:Q4):Q4:=
 let r:=pz 2 (s.1,s.2.1,s.2.2.1,gD s.2.2.2 m)
 (gD r.1 m,r.2)
theorem RM{m:Int}{h:ad}{b:Nat}{t:TypeId}{s:Q4}(d:h[b]? =some (.cells (q4 s) t (0,0))) {K:Unit→ad→Prop}
  (f:∀h',h'[b]? =some (.cells (q4 (GU m s)) t (0,0))→Upd (· =b) h h'→K () h'):HC PG nh [.pointer (some ⟨b,0,none⟩),.int .u64 m] [] K h:=by
 refine EL _ _ ?_;unfold wT bi cU bM pu;have c:∀{h:ad} {s:Q4} {i:Nat},h[b]? =some (.cells (q4 s) t (0,0))→aD h ⟨b,0+i,none⟩=(q4 s)[i]?:=fun d=>by rw[aR];exact bc d
 have w:∀{h:ad} {s:Q4} {i:Nat},h[b]? =some (.cells (q4 s) t (0,0))→i<4→Wr h ⟨b,0+i,none⟩:=fun d hi=>by rw[aR];exact i5 d hi
 simp only[show((0:Int)).toNat*1=0 from rfl,show((3:Int)).toNat*1=3 from rfl]
 refine⟨_,rfl,by decide,_,c (i:=3) d,_,rfl,by decide,w (i:=3) d (by decide),qs (s':=(s.1,s.2.1,s.2.2.1,gD s.2.2.2 m)) d rfl fun q k o=>?_⟩
 refine JS (n:=2) (by omega) k fun u a j=>?_
 have p:GU m s=(gD (pz 2 (s.1,s.2.1,s.2.2.1,gD s.2.2.2 m)).1 m,(pz 2 (s.1,s.2.1,s.2.2.1,gD s.2.2.2 m)).2):=by unfold GU;rfl
 rw[p]at f;generalize pz 2 (s.1,s.2.1,s.2.2.1,gD s.2.2.2 m)=r at a f;refine⟨_,rfl,by decide,_,c (i:=0) a,_,rfl,by decide,w (i:=0) a (by decide),qs (s':=(gD r.1 m,r.2)) a rfl fun v g e=>?_⟩
 exact f _ g (o.tr (j.tr e))
def GX:Nat→ByteArray→Q4→ByteArray×Q4
 |0,s,q=>(s,q)
 |n+1,s,q=>if 8≤s.size then GX n (s.extract 8 s.size) (GU (EX (s.extract 0 8)) q)else(s,q)
def aak(r:Q4):Int:=gD (gD (gD r.1 r.2.1) r.2.2.1) r.2.2.2
def aaj(q:Q4):Int:=aak (pz 4 (q.1,q.2.1,gD q.2.2.1 255,q.2.2.2))
def aaT(n:Nat)(g:ByteArray×Q4):Int:=aaj (GU (Vu (EX g.1) (aav (n:Int) 56)) g.2)
def Xk(k0 k1:Int)(s:ByteArray):Int:=
 aaT s.size (GX s.size s (gD k0 8317987319222330741,gD k1 7237128888997146477,gD k0 7816392313619706465,gD k1 8387220255154660723))
theorem X0{a:ad}{b:Nat}{t:TypeId}{r:Q4}(g:a[b]? =some (.cells (q4 r) t (0,0))) {K:Int→Prop} (f:K (aak r)):
  (((0:Int)≤(0:Int)∧(0:Int)<((4:Nat):Int))∧
   ∃v30:Int,aD a (adr ⟨b,0,none⟩ ((0:Int).toNat*1))=some (.int .u64 v30)∧
   (((0:Int)≤(1:Int)∧(1:Int)<((4:Nat):Int))∧
    ∃v31:Int,aD a (adr ⟨b,0,none⟩ ((1:Int).toNat*1))=some (.int .u64 v31)∧
    Bd (ac .u64 (au (ai .u64) v30^^^au (ai .u64) v31).toNat:Int) (fun n32=>
     (((0:Int)≤(2:Int)∧(2:Int)<((4:Nat):Int))∧
      ∃v33:Int,aD a (adr ⟨b,0,none⟩ ((2:Int).toNat*1))=some (.int .u64 v33)∧
      Bd (ac .u64 (au (ai .u64) n32^^^au (ai .u64) v33).toNat:Int) (fun d=>
       (((0:Int)≤(3:Int)∧(3:Int)<((4:Nat):Int))∧
        ∃v35:Int,aD a (adr ⟨b,0,none⟩ ((3:Int).toNat*1))=some (.int .u64 v35)∧
        Bd (ac .u64 (au (ai .u64) d^^^au (ai .u64) v35).toNat:Int) (fun e=>
         K e))))))):=by
 have c:∀{i:Nat},aD a ⟨b,0+i,none⟩=(q4 r)[i]?:=by intro i;rw[aR];exact bc g
 exact⟨by decide,_,c (i:=0),by decide,_,c (i:=1),by decide,_,c (i:=2),by decide,_,c (i:=3),f⟩
theorem XZ{a:ad}{b:Nat}{t:TypeId}{q:Q4}(m:a[b]? =some (.cells (q4 q) t (0,0))) {K:Unit→ad→Prop}
  (o:∀h',h'[b]? =some (.cells (q4 (pz 4 (q.1,q.2.1,gD q.2.2.1 255,q.2.2.2))) t (0,0))→Upd (· =b) a h'→K () h'):
  (((0:Int)≤(2:Int)∧(2:Int)<((4:Nat):Int))∧
   ∃v25:Int,aD a (adr ⟨b,0,none⟩ ((2:Int).toNat*1))=some (.int .u64 v25)∧
   Bd (ac .u64 (au (ai .u64) v25^^^au (ai .u64) 255).toNat:Int) (fun f=>
    (((0:Int)≤(2:Int)∧(2:Int)<((4:Nat):Int))∧
     (Wr a (adr ⟨b,0,none⟩ ((2:Int).toNat*1))∧
      At (hset a (adr ⟨b,0,none⟩ ((2:Int).toNat*1)) (.int .u64 f)) (fun k=>
       HC PG jo [.pointer (some ⟨b,0,none⟩),.int .i64 4] [] K k))))):=by
 have c:∀{i:Nat},aD a ⟨b,0+i,none⟩=(q4 q)[i]?:=by intro i;rw[aR];exact bc m
 refine⟨by decide,_,c (i:=2),by decide,by rw[show((2:Int)).toNat*1=2 from rfl,ci];exact i5 m (by simp[q4]),?_⟩
 refine qs (s':=(q.1,q.2.1,gD q.2.2.1 255,q.2.2.2)) m rfl fun s e j=>?_
 exact JS (n:=4) (by omega) e fun p g d=>o p g (j.tr d)
theorem bj{h:ad}{k:ad→Prop}(a:k h):At h k:=a
theorem YN{k0 k1:Int}{s:ByteArray}{h:ad}{K:Int→ad→Prop}(A:∀h',Upd No h h'→K (Xk k0 k1 s) h'):HC PG EA [.agg #[.int .u64 k0,.int .u64 k1],.string s] [.c (.int .u64)] K h:=by
 refine T8 (k0,k1) s ?_;unfold K1 bi cU nv bM wr ae pu ZO Zt Zz;have u:=Upd.hnew No h [.int .u64 k0,.int .u64 k1] wx;have b1:=bI h [.int .u64 k0,.int .u64 k1] wx;have J:=eT h [.int .u64 k0,.int .u64 k1] wx;refine bj ?_;simp only[df h];generalize hnew h [.int .u64 k0,.int .u64 k1] wx=h1 at u b1 J;refine⟨k0,by rw[ci,bc b1];rfl,k1,by rw[ci,bc b1];rfl,k0,by rw[ci,bc b1];rfl,k1,by rw[ci,bc b1];rfl,?_⟩
 have F:=Upd.hnew No h1 [.int .u64 0,.int .u64 0,.int .u64 0,.int .u64 0] jR;have b2:=bI h1 [.int .u64 0,.int .u64 0,.int .u64 0,.int .u64 0] jR;simp only[df h1];simp only[Bd];refine bj ?_;refine⟨.inr ⟨_,rfl,fun j N=>by rw[ci];exact i5 b2 (by simp at N⊢;omega)⟩,?_⟩
 refine bj ?_;rw[jI _ _ 0 0 _ b2 (by simp)];have b3:=jx (o:=.cells (q4 (gD k0 8317987319222330741,gD k1 7237128888997146477,gD k0 7816392313619706465,gD k1 8387220255154660723)) jR (0,0)) b2;have G:Upd No h _:=u.tr (F.trans (M':=(· =h1.size)) (Upd.set (hnew h1 [.int .u64 0,.int .u64 0,.int .u64 0,.int .u64 0] jR) (.cells (q4 (gD k0 8317987319222330741,gD k1 7237128888997146477,gD k0 7816392313619706465,gD k1 8387220255154660723)) jR (0,0)) rfl) fun b d=>.inr (Nat.le_of_eq d.symm))
 refine LoopP.ghost (fun(g:Nat×Q4) (a:ByteArray) h'=>a.size≤g.1∧h'[h1.size]? =some (.cells (q4 g.2) jR (0,0))∧Upd No h h'∧GX g.1 a g.2=GX s.size s (gD k0 8317987319222330741,gD k1 7237128888997146477,gD k0 7816392313619706465,gD k1 8387220255154660723)) (fun g=>g.1) (s.size,_)
  ⟨av _,b3,G,rfl⟩ ?_
 rintro I ⟨n,q⟩ a h' ⟨L,d,C,p⟩ E;simp only at L d p;have f:∀b,b=h1.size→No b∨h.size≤b:=fun b d=>.inr (by omega)
 refine aF (fun t=>?_) fun y=>?_
 ·have t:8≤a.size:=by omega
  cases n with
  |zero=>omega
  |succ n=>
   refine⟨by omega,RB (by rw[p7];show min 8 _-0≤8;omega) (RM d fun D e k=>⟨by omega,?_⟩)⟩
   have H:((8:Int)).toNat=8:=rfl;rw[H]at e⊢;refine E (n,GU (EX (a.extract 0 8)) q) _ _ ⟨by simp only[p7];omega,e,C.trans k f,?_⟩ (by simp only;omega);rw[←p];simp only[GX,if_pos t]
 ·have y:a.size<8:=by omega
  have p:(a,q)=GX s.size s (gD k0 8317987319222330741,gD k1 7237128888997146477,gD k0 7816392313619706465,gD k1 8387220255154660723):=by
   rw[←p];cases n with
   |zero=>rfl
   |succ n=>simp only[GX,if_neg (show ¬8≤a.size by omega)]
  have c:∀{h:ad} {s:Q4} {i:Nat},h[h1.size]? =some (.cells (q4 s) jR (0,0))→aD h ⟨h1.size,0+i,none⟩=(q4 s)[i]?:=fun d=>by rw[aR];exact bc d
  have w:∀{h:ad} {s:Q4} {i:Nat},h[h1.size]? =some (.cells (q4 s) jR (0,0))→i<4→Wr h ⟨h1.size,0+i,none⟩:=fun d hi=>by rw[aR];exact i5 d hi
  have z:Xk k0 k1 s=aaj (GU (Vu (EX a) (aav (s.size:Int) 56)) q):=by unfold Xk;rw[←p];rfl
  rw[z]at A;refine RB (by omega) ⟨by decide,RM (m:=Vu (EX a) (aav (s.size:Int) 56)) d fun D e k=>?_⟩
  refine XZ e fun B x v=>X0 (K:=fun n=>K n B) x ?_
  exact A B ((C.trans k f).trans v f)
structure Hs where
 k0:Int
 k1:Int
 mask:Int
def jU(h:Hs)(s:ByteArray):Int:=WF (Xk h.k0 h.k1 s) h.mask
theorem CV{x:Hs}{s:ByteArray}{h:ad}{K:Int→ad→Prop}(c:∀h',Upd No h h'→K (jU x s) h'):HC PG gr [.agg #[.int .u64 x.k0,.int .u64 x.k1,.int .u64 x.mask],.string s] [.c (.int .u64)] K h:=by
 refine Dk (x.k0,x.k1,x.mask) s ?_;unfold vd ae AG im ZD;have a:=Upd.hnew No h [.int .u64 x.k0,.int .u64 x.k1,.int .u64 x.mask] eO;have b1:=bI h [.int .u64 x.k0,.int .u64 x.k1,.int .u64 x.mask] eO;simp only[At,df h];generalize hnew h [.int .u64 x.k0,.int .u64 x.k1,.int .u64 x.mask] eO=h1 at a b1;refine⟨x.k0,by rw[ci,ci,bc b1];rfl,x.k1,by rw[ci,ci,bc b1];rfl,x.mask,by rw[ci,bc b1];rfl,?_⟩
 refine YN fun d b=>⟨by rw[ci,bc (b.get0 b1)];rfl,c _ (a.tr b)⟩
theorem Of(x:Hs)(s:ByteArray):0≤jU x s∧jU x s<18446744073709551616:=PI _
end Go.Proofs
namespace Go.Proofs
open Go Go.Lift
abbrev iZ(x:ByteArray×ByteArray):List Value:= [.string x.1,.string x.2]
theorem fR(x:ByteArray×ByteArray):(iZ x).length=2∧0<2:=⟨rfl,by omega⟩
theorem Ap:∀xs:List (ByteArray×ByteArray),cx (xs.flatMap iZ)=true
 | []=>rfl
 |x::xs=>by rw[bK];exact m8 rfl (Ap xs)
theorem LD{h:ad}{a b o d c f e:Nat}{k cw:Array Value}{i tb:TypeId}(g:h[a]? =some (.cells k i (0,0))) (q:h[b]? =some (.cells cw tb (0,0))) (p:a≠b) (n:cw.size≠0) {K:Bool→ad→Prop} (m:K false h):
  HC PG jb [.slice (some ⟨a,0,none⟩) d c,.slice (some ⟨b,o,none⟩) f e] [.c .bool] K h:=by
 refine⟨fun w j=>.inr ⟨.bool false,w,?_,Tame.refl w,false,rfl,j▸m⟩⟩
 subst j;rw[ta];have:=Lib.run_overlaps_apart (P:=PG) w eG mB ax (by kernel_rfl) (cg PG ax) (rl (by kernel_rfl)) ⟨a,0,none⟩ ⟨b,o,none⟩ d c f e p i tb k.size cw.size
  (by simp[World.shape?,g]) (by simp[World.shape?,q]) n (by simp[World.frozen?,g]) (by simp[World.frozen?,g])
 rw[show([Value.slice (some ⟨a,0,none⟩) d c,Value.slice (some ⟨b,o,none⟩) f e]:List Value).toArray= #[.slice (some ⟨a,0,none⟩) d c,.slice (some ⟨b,o,none⟩) f e]from rfl,this]
 rfl
set_option maxRecDepth 4000 in
theorem QA{M:Nat→Prop}{h:ad}{s:SliceV}{xs:List (ByteArray×ByteArray)}(U:OwnS iZ 2 ax M h s xs){k:Nat}(hkl:k≤xs.length)(hn:(xs.length+1)*32≤140737488355328){x:ByteArray×ByteArray}{m:Nat}(E:h[m]? =some (.cells (iZ x).toArray ax (0,0)))
  (V:¬M m) (hM:∀b,h.size≤b→M b) {K:SliceV→ad→Prop} (hK:∀s' h',OwnS iZ 2 ax M h' s' (xs.take k++x::xs.drop k)→Upd M h h'→K s' h'):
  HC PG cW [.slice s.a s.len s.cap,.int .i64 k,.slice (some ⟨m,0,none⟩) 1 1] [.c .slice] K h:=by
 refine nt s k ⟨some ⟨m,0,none⟩,1,1⟩ ?_;unfold iE ic;have n:=U.len;have hcap:=U.cap;have Q:SRow h (some ⟨m,0,none⟩) (1*2) (iZ x):=⟨rfl,.inr ⟨_,rfl,py E fun i v hi=>by simpa using hi⟩⟩
 refine⟨by omega,af.2 ?_⟩;refine CondP.intro (fun e=>?_) fun e=>?_
 ·have e:k=xs.length:=by have:=of_decide_eq_true (by simpa using e:decide ((k:Int)=(s.len:Int))=true);omega
  subst e;refine⟨_,Q,AppP.own (ys:= [x]) U rfl (by simp) rfl rfl (by omega) (by simp;omega) (hM _ (av _)) fun s' h' ho hu=>hK s' h' ?_ hu⟩
  rw[bJ,List.drop_length];exact ho
 have hlt:k<xs.length:=by
  rcases cC k xs.length with h|h
  ·exact h
  ·have:((k:Int)==(s.len:Int))=true:=by rw[beq_iff_eq];omega
   rw[this]at e;cases e
 rcases U.blk with h0|⟨b,g,ha,t,hc,hr⟩
 ·omega
 have j:((xs.take k).flatMap iZ).length=k*2:=by rw[j4 fR,be,bU hkl]
 have u:((xs.drop k).flatMap iZ).length=(xs.length-k)*2:=by rw[j4 fR,aS]
 have J:m≠b:=fun e=>V (e▸t)
 rw[zN (f:=iZ) xs k]at hc;have a:(xs.take k++x::xs.drop k).flatMap iZ=(xs.take k).flatMap iZ++(iZ x++(xs.drop k).flatMap iZ):=by rw[cc,bK]
 have d:=Ap (xs.drop k);have c:(iZ x).length=2:=rfl;have C:cx (iZ x)=true:=rfl;generalize hAe:(xs.take k).flatMap iZ=A at j hc a;generalize hBe:(xs.drop k).flatMap iZ=B at u hc a d;generalize iZ x=X at Q c E a C;rw[ha];have w1:ac .i64 ((xs.length:Int)+((1:Nat):Int))=((xs.length+1:Nat):Int):=by rw[kO (by omega)];omega
 have w2:ac .i64 ((k:Int)+((1:Nat):Int))=((k+1:Nat):Int):=by rw[kO (by omega)];omega
 have w3:ac .i64 (((xs.length+1:Nat):Int)-(k:Int))=((xs.length+1-k:Nat):Int):=by rw[kO (by omega)];omega
 simp only[w1,w2,w3,ak,n];refine aF (fun hgt=>?_) fun hle=>?_
 ·
  have O:s.cap=xs.length:=by omega
  refine Join.plain ⟨by omega,⟨by omega,by omega,by omega,by omega⟩,fun hin=>?_,fun N=>?_⟩
  ·omega
  ·refine⟨A,_,?_,rfl,by omega,Go.growslice_fits N (by omega),fun D w=>?_⟩
   ·rw[sub_zero]
    exact lS hc (by rw[j];omega) (by simp only[dK,eP];rw[aM,←j,fJ (av _),bJ])
   ·simp only[ak]at w⊢
    have T:=Upd.hnew No h (A++dw (xs.length+1-k) [.string (⟨#[]⟩:ByteArray),.string (⟨#[]⟩:ByteArray)]++dw (D-(k-0+(xs.length+1-k))) [.string (⟨#[]⟩:ByteArray),.string (⟨#[]⟩:ByteArray)]) ax;have bn:=bI h (A++dw (xs.length+1-k) [.string (⟨#[]⟩:ByteArray),.string (⟨#[]⟩:ByteArray)]++dw (D-(k-0+(xs.length+1-k))) [.string (⟨#[]⟩:ByteArray),.string (⟨#[]⟩:ByteArray)]) ax
    have y:(dw (xs.length+1-k) [.string (⟨#[]⟩:ByteArray),.string (⟨#[]⟩:ByteArray)]).length=(xs.length+1-k)*2:=mu _ _;have hz2:(dw (D-(k-0+(xs.length+1-k))) [.string (⟨#[]⟩:ByteArray),.string (⟨#[]⟩:ByteArray)]).length=(D-(k-0+(xs.length+1-k)))*2:=mu _ _;have p:k-0+(xs.length+1-k)=xs.length+1:=by omega
    rw[df];have hsz:h.size≠m:=fun e=>by have:=bB E;omega
    have F:h.size≠b:=fun e=>by have:=bB hc;omega
    have I:=T.get0 hc;have S:=T.get0 E;generalize hnew h _ ax=h9 at T bn I S;rw[p]at w hz2⊢;have Y:dQ 1 (xs.length+1-k)=1:=bU (by omega);have m2:dQ (xs.length-k) (xs.length+1-(k+1))=xs.length-k:=bU (by omega);rw[Y];have xr9:SRow h9 (some ⟨m,0,none⟩) (1*2) X:=lS S (by rw[c]) (by rw[dK,bG];rw[c];omega)
    refine⟨by omega,?_⟩;rw[jF (by omega)];refine lF xr9 C bn (by simp only[aj,j,y];omega) fun h11 H o=>⟨by omega,?_⟩
    simp only[Bd];rw[jF (by omega),jF (by omega),m2];refine⟨by omega,?_⟩;have z:=o.get I (fun e=>F e.symm)
    have W:SRow h11 (some ⟨b,0+k*2,none⟩) ((xs.length-k)*2) B:=lS z u (by
     rw[aR,aM,←j,ju,←u,kJ])
    refine lF W d H ?_ fun h16 L G=>?_
    ·simp only[aj,be,aS,j,y,c];omega
    ·refine hK _ _ ⟨by simp;omega,fR,w,.inr ⟨h.size,dw (D-(xs.length+1)) [.string (⟨#[]⟩:ByteArray),.string (⟨#[]⟩:ByteArray)],rfl,hM _ (av _),?_,by rw[mu];rfl⟩⟩ ((T.wide.trans (M':=(· =h.size)) o fun b t=>.inl (t▸hM _ (av _))).trans (M':=(· =h.size)) G fun b t=>.inl (t▸hM _ (av _)))
     rw[L,a];have:=LO (A:=A) (X:=X) (B:=B) (Z1:=dw (xs.length+1-k) [.string (⟨#[]⟩:ByteArray),.string (⟨#[]⟩:ByteArray)]) (Z2:=dw (D-(xs.length+1)) [.string (⟨#[]⟩:ByteArray),.string (⟨#[]⟩:ByteArray)]) (r:=(xs.length-k)*2) j c (by rw[y,←gJ];congr 1;omega);rw[p,←this];simp only[aR,gJ]
 ·have O:xs.length+1≤s.cap:=by omega
  refine⟨by omega,?_⟩;simp only[Bd,eP];rw[sub_zero,jF (show s.cap≠k+1 by omega),jF (show s.cap≠k by omega)]
  refine⟨by omega,?_⟩;have hrl:2≤g.length:=by rw[hr];exact pZ _ (by omega)
  refine LD E hc J (by rw[cP,aj];omega) ?_;refine aA.2 ⟨by omega,by omega,?_⟩
  have Y:dQ 1 (xs.length+1-k)=1:=bU (by omega);have m2:dQ (xs.length+1-k) (xs.length+1-(k+1))=xs.length-k:=by
   rw[show xs.length+1-(k+1)=xs.length-k by omega];exact qJ (by omega)
  rw[m2];have W:SRow h (some ⟨b,0+k*2,none⟩) ((xs.length-k)*2) B:=lS hc u (by
   rw[aR,aM,←j,ju,←u,kJ])
  refine lF W d hc (by simp only[aj,j,u];omega) fun h1 Z P=>⟨by omega,?_⟩
  rw[Y];have xr1:SRow h1 (some ⟨m,0,none⟩) (1*2) X:=lS (P.get E J) (by rw[c]) (by rw[dK,bG];rw[c];omega);refine lF xr1 C Z (by simp only[aj,be,aS,j,u];omega) fun h2 hb2 hu2=>?_
  refine hK _ _ ⟨by simp;omega,fR,O,.inr ⟨b,g.drop 2,rfl,t,?_,?_⟩⟩ ((P.mono fun _ e=>.inl (e▸t)).tr (hu2.mono fun _ e=>.inl (e▸t)))
  ·rw[hb2,a]
   have:=QC (A:=A) (X:=X) (B:=B) (R:=g) (q:=2) (r:=(xs.length-k)*2) j u hrl;rw[←this];simp only[aR,gJ]
  ·rw[aS,hr]
   simp only;rw[n];omega
abbrev uB(x:Option Addr):List Value:= [.pointer x]
theorem tC(x:Option Addr):(uB x).length=1∧0<1:=⟨rfl,by omega⟩
theorem Gp:∀xs:List (Option Addr),cx (xs.flatMap uB)=true
 | []=>rfl
 |x::xs=>by rw[bK];exact m8 rfl (Gp xs)
theorem LF{h:ad}{a b o d c f e:Nat}{k cw:Array Value}{i tb:TypeId}(g:h[a]? =some (.cells k i (0,0))) (q:h[b]? =some (.cells cw tb (0,0))) (p:a≠b) (n:cw.size≠0) {K:Bool→ad→Prop} (m:K false h):
  HC PG iu [.slice (some ⟨a,0,none⟩) d c,.slice (some ⟨b,o,none⟩) f e] [.c .bool] K h:=by
 refine⟨fun w j=>.inr ⟨.bool false,w,?_,Tame.refl w,false,rfl,j▸m⟩⟩
 subst j;rw[rA];have:=Lib.run_overlaps_apart (P:=PG) w rS mB bS (by kernel_rfl) (cg PG bS) (rl (by kernel_rfl)) ⟨a,0,none⟩ ⟨b,o,none⟩ d c f e p i tb k.size cw.size
  (by simp[World.shape?,g]) (by simp[World.shape?,q]) n (by simp[World.frozen?,g]) (by simp[World.frozen?,g])
 rw[show([Value.slice (some ⟨a,0,none⟩) d c,Value.slice (some ⟨b,o,none⟩) f e]:List Value).toArray= #[.slice (some ⟨a,0,none⟩) d c,.slice (some ⟨b,o,none⟩) f e]from rfl,this]
 rfl
set_option maxRecDepth 4000 in
theorem QB{M:Nat→Prop}{h:ad}{s:SliceV}{xs:List (Option Addr)}(U:OwnS uB 1 bS M h s xs){k:Nat}(hkl:k≤xs.length)(hn:(xs.length+1)*8≤140737488355328){x:Option Addr}{m:Nat}(E:h[m]? =some (.cells (uB x).toArray bS (0,0)))
  (V:¬M m) (hM:∀b,h.size≤b→M b) {K:SliceV→ad→Prop} (hK:∀s' h',OwnS uB 1 bS M h' s' (xs.take k++x::xs.drop k)→Upd M h h'→K s' h'):
  HC PG cK [.slice s.a s.len s.cap,.int .i64 k,.slice (some ⟨m,0,none⟩) 1 1] [.c .slice] K h:=by
 refine lG s k ⟨some ⟨m,0,none⟩,1,1⟩ ?_;unfold gH;have n:=U.len;have hcap:=U.cap;have Q:SRow h (some ⟨m,0,none⟩) (1*1) (uB x):=⟨rfl,.inr ⟨_,rfl,py E fun i v hi=>by simpa using hi⟩⟩
 refine⟨by omega,af.2 ?_⟩;refine CondP.intro (fun e=>?_) fun e=>?_
 ·have e:k=xs.length:=by have:=of_decide_eq_true (by simpa using e:decide ((k:Int)=(s.len:Int))=true);omega
  subst e;refine⟨_,Q,AppP.own (ys:= [x]) U rfl (by simp) rfl rfl (by omega) (by simp;omega) (hM _ (av _)) fun s' h' ho hu=>hK s' h' ?_ hu⟩
  rw[bJ,List.drop_length];exact ho
 have hlt:k<xs.length:=by
  rcases cC k xs.length with h|h
  ·exact h
  ·have:((k:Int)==(s.len:Int))=true:=by rw[beq_iff_eq];omega
   rw[this]at e;cases e
 rcases U.blk with h0|⟨b,g,ha,t,hc,hr⟩
 ·omega
 have j:((xs.take k).flatMap uB).length=k*1:=by rw[j4 tC,be,bU hkl]
 have u:((xs.drop k).flatMap uB).length=(xs.length-k)*1:=by rw[j4 tC,aS]
 have J:m≠b:=fun e=>V (e▸t)
 rw[zN (f:=uB) xs k]at hc;have a:(xs.take k++x::xs.drop k).flatMap uB=(xs.take k).flatMap uB++(uB x++(xs.drop k).flatMap uB):=by rw[cc,bK]
 have d:=Gp (xs.drop k);have c:(uB x).length=1:=rfl;have C:cx (uB x)=true:=rfl;generalize hAe:(xs.take k).flatMap uB=A at j hc a;generalize hBe:(xs.drop k).flatMap uB=B at u hc a d;generalize uB x=X at Q c E a C;rw[ha];have w1:ac .i64 ((xs.length:Int)+((1:Nat):Int))=((xs.length+1:Nat):Int):=by rw[kO (by omega)];omega
 have w2:ac .i64 ((k:Int)+((1:Nat):Int))=((k+1:Nat):Int):=by rw[kO (by omega)];omega
 have w3:ac .i64 (((xs.length+1:Nat):Int)-(k:Int))=((xs.length+1-k:Nat):Int):=by rw[kO (by omega)];omega
 simp only[w1,w2,w3,ak,n];refine aF (fun hgt=>?_) fun hle=>?_
 ·
  have O:s.cap=xs.length:=by omega
  refine Join.plain ⟨by omega,⟨by omega,by omega,by omega,by omega⟩,fun hin=>?_,fun N=>?_⟩
  ·omega
  ·refine⟨A,_,?_,rfl,by omega,Go.growslice_fits N (by omega),fun D w=>?_⟩
   ·rw[sub_zero]
    exact lS hc (by rw[j];omega) (by simp only[dK,eP];rw[aM,←j,fJ (av _),bJ])
   ·simp only[ak]at w⊢
    have T:=Upd.hnew No h (A++dw (xs.length+1-k) [.pointer none]++dw (D-(k-0+(xs.length+1-k))) [.pointer none]) bS;have bn:=bI h (A++dw (xs.length+1-k) [.pointer none]++dw (D-(k-0+(xs.length+1-k))) [.pointer none]) bS;have y:(dw (xs.length+1-k) [.pointer none]).length=(xs.length+1-k)*1:=mu _ _;have hz2:(dw (D-(k-0+(xs.length+1-k))) [.pointer none]).length=(D-(k-0+(xs.length+1-k)))*1:=mu _ _
    have p:k-0+(xs.length+1-k)=xs.length+1:=by omega
    rw[df];have hsz:h.size≠m:=fun e=>by have:=bB E;omega
    have F:h.size≠b:=fun e=>by have:=bB hc;omega
    have I:=T.get0 hc;have S:=T.get0 E;generalize hnew h _ bS=h9 at T bn I S;rw[p]at w hz2⊢;have Y:dQ 1 (xs.length+1-k)=1:=bU (by omega);have m2:dQ (xs.length-k) (xs.length+1-(k+1))=xs.length-k:=bU (by omega);rw[Y];have xr9:SRow h9 (some ⟨m,0,none⟩) (1*1) X:=lS S (by rw[c]) (by rw[dK,bG];rw[c];omega)
    refine⟨by omega,?_⟩;rw[jF (by omega)];refine lF xr9 C bn (by simp only[aj,j,y];omega) fun h11 H o=>⟨by omega,?_⟩
    simp only[Bd];rw[jF (by omega),jF (by omega),m2];refine⟨by omega,?_⟩;have z:=o.get I (fun e=>F e.symm)
    have W:SRow h11 (some ⟨b,0+k*1,none⟩) ((xs.length-k)*1) B:=lS z u (by
     rw[aR,aM,←j,ju,←u,kJ])
    refine lF W d H ?_ fun h16 L G=>?_
    ·simp only[aj,be,aS,j,y,c];omega
    ·refine hK _ _ ⟨by simp;omega,tC,w,.inr ⟨h.size,dw (D-(xs.length+1)) [.pointer none],rfl,hM _ (av _),?_,by rw[mu];rfl⟩⟩ ((T.wide.trans (M':=(· =h.size)) o fun b t=>.inl (t▸hM _ (av _))).trans (M':=(· =h.size)) G fun b t=>.inl (t▸hM _ (av _)))
     rw[L,a];have:=LO (A:=A) (X:=X) (B:=B) (Z1:=dw (xs.length+1-k) [.pointer none]) (Z2:=dw (D-(xs.length+1)) [.pointer none]) (r:=(xs.length-k)*1) j c (by rw[y,←gJ];congr 1;omega);rw[p,←this];simp only[aR,gJ]
 ·have O:xs.length+1≤s.cap:=by omega
  refine⟨by omega,?_⟩;simp only[Bd,eP];rw[sub_zero,jF (show s.cap≠k+1 by omega),jF (show s.cap≠k by omega)]
  refine⟨by omega,?_⟩;have hrl:1≤g.length:=by rw[hr];exact pZ _ (by omega)
  refine LF E hc J (by rw[cP,aj];omega) ?_;refine aA.2 ⟨by omega,by omega,?_⟩
  have Y:dQ 1 (xs.length+1-k)=1:=bU (by omega);have m2:dQ (xs.length+1-k) (xs.length+1-(k+1))=xs.length-k:=by
   rw[show xs.length+1-(k+1)=xs.length-k by omega];exact qJ (by omega)
  rw[m2];have W:SRow h (some ⟨b,0+k*1,none⟩) ((xs.length-k)*1) B:=lS hc u (by
   rw[aR,aM,←j,ju,←u,kJ])
  refine lF W d hc (by simp only[aj,j,u];omega) fun h1 Z P=>⟨by omega,?_⟩
  rw[Y];have xr1:SRow h1 (some ⟨m,0,none⟩) (1*1) X:=lS (P.get E J) (by rw[c]) (by rw[dK,bG];rw[c];omega);refine lF xr1 C Z (by simp only[aj,be,aS,j,u];omega) fun h2 hb2 hu2=>?_
  refine hK _ _ ⟨by simp;omega,tC,O,.inr ⟨b,g.drop 1,rfl,t,?_,?_⟩⟩ ((P.mono fun _ e=>.inl (e▸t)).tr (hu2.mono fun _ e=>.inl (e▸t)))
  ·rw[hb2,a]
   have:=QC (A:=A) (X:=X) (B:=B) (R:=g) (q:=1) (r:=(xs.length-k)*1) j u hrl;rw[←this];simp only[aR,gJ]
  ·rw[aS,hr]
   simp only;rw[n];omega
abbrev xh(x:Option Addr):List Value:= [.pointer x]
theorem px(x:Option Addr):(xh x).length=1∧0<1:=⟨rfl,by omega⟩
theorem Gn:∀xs:List (Option Addr),cx (xs.flatMap xh)=true
 | []=>rfl
 |x::xs=>by rw[bK];exact m8 rfl (Gn xs)
theorem LC{h:ad}{a b o d c f e:Nat}{k cw:Array Value}{i tb:TypeId}(g:h[a]? =some (.cells k i (0,0))) (q:h[b]? =some (.cells cw tb (0,0))) (p:a≠b) (n:cw.size≠0) {K:Bool→ad→Prop} (m:K false h):
  HC PG gY [.slice (some ⟨a,0,none⟩) d c,.slice (some ⟨b,o,none⟩) f e] [.c .bool] K h:=by
 refine⟨fun w j=>.inr ⟨.bool false,w,?_,Tame.refl w,false,rfl,j▸m⟩⟩
 subst j;rw[qE];have:=Lib.run_overlaps_apart (P:=PG) w qp mB bP (by kernel_rfl) (cg PG bP) (rl (by kernel_rfl)) ⟨a,0,none⟩ ⟨b,o,none⟩ d c f e p i tb k.size cw.size
  (by simp[World.shape?,g]) (by simp[World.shape?,q]) n (by simp[World.frozen?,g]) (by simp[World.frozen?,g])
 rw[show([Value.slice (some ⟨a,0,none⟩) d c,Value.slice (some ⟨b,o,none⟩) f e]:List Value).toArray= #[.slice (some ⟨a,0,none⟩) d c,.slice (some ⟨b,o,none⟩) f e]from rfl,this]
 rfl
set_option maxRecDepth 4000 in
theorem Qz{M:Nat→Prop}{h:ad}{s:SliceV}{xs:List (Option Addr)}(U:OwnS xh 1 bP M h s xs){k:Nat}(hkl:k≤xs.length)(hn:(xs.length+1)*8≤140737488355328){x:Option Addr}{m:Nat}(E:h[m]? =some (.cells (xh x).toArray bP (0,0)))
  (V:¬M m) (hM:∀b,h.size≤b→M b) {K:SliceV→ad→Prop} (hK:∀s' h',OwnS xh 1 bP M h' s' (xs.take k++x::xs.drop k)→Upd M h h'→K s' h'):
  HC PG ef [.slice s.a s.len s.cap,.int .i64 k,.slice (some ⟨m,0,none⟩) 1 1] [.c .slice] K h:=by
 refine kQ s k ⟨some ⟨m,0,none⟩,1,1⟩ ?_;unfold gf;have n:=U.len;have hcap:=U.cap;have Q:SRow h (some ⟨m,0,none⟩) (1*1) (xh x):=⟨rfl,.inr ⟨_,rfl,py E fun i v hi=>by simpa using hi⟩⟩
 refine⟨by omega,af.2 ?_⟩;refine CondP.intro (fun e=>?_) fun e=>?_
 ·have e:k=xs.length:=by have:=of_decide_eq_true (by simpa using e:decide ((k:Int)=(s.len:Int))=true);omega
  subst e;refine⟨_,Q,AppP.own (ys:= [x]) U rfl (by simp) rfl rfl (by omega) (by simp;omega) (hM _ (av _)) fun s' h' ho hu=>hK s' h' ?_ hu⟩
  rw[bJ,List.drop_length];exact ho
 have hlt:k<xs.length:=by
  rcases cC k xs.length with h|h
  ·exact h
  ·have:((k:Int)==(s.len:Int))=true:=by rw[beq_iff_eq];omega
   rw[this]at e;cases e
 rcases U.blk with h0|⟨b,g,ha,t,hc,hr⟩
 ·omega
 have j:((xs.take k).flatMap xh).length=k*1:=by rw[j4 px,be,bU hkl]
 have u:((xs.drop k).flatMap xh).length=(xs.length-k)*1:=by rw[j4 px,aS]
 have J:m≠b:=fun e=>V (e▸t)
 rw[zN (f:=xh) xs k]at hc;have a:(xs.take k++x::xs.drop k).flatMap xh=(xs.take k).flatMap xh++(xh x++(xs.drop k).flatMap xh):=by rw[cc,bK]
 have d:=Gn (xs.drop k);have c:(xh x).length=1:=rfl;have C:cx (xh x)=true:=rfl;generalize hAe:(xs.take k).flatMap xh=A at j hc a;generalize hBe:(xs.drop k).flatMap xh=B at u hc a d;generalize xh x=X at Q c E a C;rw[ha];have w1:ac .i64 ((xs.length:Int)+((1:Nat):Int))=((xs.length+1:Nat):Int):=by rw[kO (by omega)];omega
 have w2:ac .i64 ((k:Int)+((1:Nat):Int))=((k+1:Nat):Int):=by rw[kO (by omega)];omega
 have w3:ac .i64 (((xs.length+1:Nat):Int)-(k:Int))=((xs.length+1-k:Nat):Int):=by rw[kO (by omega)];omega
 simp only[w1,w2,w3,ak,n];refine aF (fun hgt=>?_) fun hle=>?_
 ·
  have O:s.cap=xs.length:=by omega
  refine Join.plain ⟨by omega,⟨by omega,by omega,by omega,by omega⟩,fun hin=>?_,fun N=>?_⟩
  ·omega
  ·refine⟨A,_,?_,rfl,by omega,Go.growslice_fits N (by omega),fun D w=>?_⟩
   ·rw[sub_zero]
    exact lS hc (by rw[j];omega) (by simp only[dK,eP];rw[aM,←j,fJ (av _),bJ])
   ·simp only[ak]at w⊢
    have T:=Upd.hnew No h (A++dw (xs.length+1-k) [.pointer none]++dw (D-(k-0+(xs.length+1-k))) [.pointer none]) bP;have bn:=bI h (A++dw (xs.length+1-k) [.pointer none]++dw (D-(k-0+(xs.length+1-k))) [.pointer none]) bP;have y:(dw (xs.length+1-k) [.pointer none]).length=(xs.length+1-k)*1:=mu _ _;have hz2:(dw (D-(k-0+(xs.length+1-k))) [.pointer none]).length=(D-(k-0+(xs.length+1-k)))*1:=mu _ _
    have p:k-0+(xs.length+1-k)=xs.length+1:=by omega
    rw[df];have hsz:h.size≠m:=fun e=>by have:=bB E;omega
    have F:h.size≠b:=fun e=>by have:=bB hc;omega
    have I:=T.get0 hc;have S:=T.get0 E;generalize hnew h _ bP=h9 at T bn I S;rw[p]at w hz2⊢;have Y:dQ 1 (xs.length+1-k)=1:=bU (by omega);have m2:dQ (xs.length-k) (xs.length+1-(k+1))=xs.length-k:=bU (by omega);rw[Y];have xr9:SRow h9 (some ⟨m,0,none⟩) (1*1) X:=lS S (by rw[c]) (by rw[dK,bG];rw[c];omega)
    refine⟨by omega,?_⟩;rw[jF (by omega)];refine lF xr9 C bn (by simp only[aj,j,y];omega) fun h11 H o=>⟨by omega,?_⟩
    simp only[Bd];rw[jF (by omega),jF (by omega),m2];refine⟨by omega,?_⟩;have z:=o.get I (fun e=>F e.symm)
    have W:SRow h11 (some ⟨b,0+k*1,none⟩) ((xs.length-k)*1) B:=lS z u (by
     rw[aR,aM,←j,ju,←u,kJ])
    refine lF W d H ?_ fun h16 L G=>?_
    ·simp only[aj,be,aS,j,y,c];omega
    ·refine hK _ _ ⟨by simp;omega,px,w,.inr ⟨h.size,dw (D-(xs.length+1)) [.pointer none],rfl,hM _ (av _),?_,by rw[mu];rfl⟩⟩ ((T.wide.trans (M':=(· =h.size)) o fun b t=>.inl (t▸hM _ (av _))).trans (M':=(· =h.size)) G fun b t=>.inl (t▸hM _ (av _)))
     rw[L,a];have:=LO (A:=A) (X:=X) (B:=B) (Z1:=dw (xs.length+1-k) [.pointer none]) (Z2:=dw (D-(xs.length+1)) [.pointer none]) (r:=(xs.length-k)*1) j c (by rw[y,←gJ];congr 1;omega);rw[p,←this];simp only[aR,gJ]
 ·have O:xs.length+1≤s.cap:=by omega
  refine⟨by omega,?_⟩;simp only[Bd,eP];rw[sub_zero,jF (show s.cap≠k+1 by omega),jF (show s.cap≠k by omega)]
  refine⟨by omega,?_⟩;have hrl:1≤g.length:=by rw[hr];exact pZ _ (by omega)
  refine LC E hc J (by rw[cP,aj];omega) ?_;refine aA.2 ⟨by omega,by omega,?_⟩
  have Y:dQ 1 (xs.length+1-k)=1:=bU (by omega);have m2:dQ (xs.length+1-k) (xs.length+1-(k+1))=xs.length-k:=by
   rw[show xs.length+1-(k+1)=xs.length-k by omega];exact qJ (by omega)
  rw[m2];have W:SRow h (some ⟨b,0+k*1,none⟩) ((xs.length-k)*1) B:=lS hc u (by
   rw[aR,aM,←j,ju,←u,kJ])
  refine lF W d hc (by simp only[aj,j,u];omega) fun h1 Z P=>⟨by omega,?_⟩
  rw[Y];have xr1:SRow h1 (some ⟨m,0,none⟩) (1*1) X:=lS (P.get E J) (by rw[c]) (by rw[dK,bG];rw[c];omega);refine lF xr1 C Z (by simp only[aj,be,aS,j,u];omega) fun h2 hb2 hu2=>?_
  refine hK _ _ ⟨by simp;omega,px,O,.inr ⟨b,g.drop 1,rfl,t,?_,?_⟩⟩ ((P.mono fun _ e=>.inl (e▸t)).tr (hu2.mono fun _ e=>.inl (e▸t)))
  ·rw[hb2,a]
   have:=QC (A:=A) (X:=X) (B:=B) (R:=g) (q:=1) (r:=(xs.length-k)*1) j u hrl;rw[←this];simp only[aR,gJ]
  ·rw[aS,hr]
   simp only;rw[n];omega
end Go.Proofs
namespace Go.Proofs
open Go Go.Lift
theorem Ay{W:Nat→Prop}{h:ad}{s:SliceV}{xs:List (ByteArray×ByteArray)}(c:Sl iZ 2 W h s xs)(m:xs.length*32≤140737488355328){K:SliceV→ad→Prop}
  (e:∀s' h',OwnS iZ 2 ax (fun b=>h.size≤b) h' s' xs→Upd No h h'→K s' h'):HC PG de [.slice s.a s.len s.cap] [.c .slice] K h:=by
 refine nR s ?_;unfold iU ic;refine CondP.intro (fun d=>?_) (fun k=>?_)
 ·have d:s.a=none:=by simpa using d
  have hx:xs= []:=by
   by_cases hx:xs= []
   ·exact hx
   ·obtain⟨a,g,_⟩:=c.row hx
    rw[d]at g;cases g
  subst hx;exact e _ _ (OwnS.nil fR) (Upd.refl _ _)
 ·have j:=c.upd (Upd.hnew No h [] ax) (fun _ h=>h.elim)
  refine⟨_,j.srow,?_⟩;refine AppP.own (f:=iZ) (M:=fun b=>h.size≤b) (xs:= []) (ys:=xs) ⟨rfl,fR,av _,.inl rfl⟩ c.len rfl (Ap xs) rfl (by omega) (by simpa using m) (by rw[eT];omega) fun s' h' i n=>?_
  exact e _ _ i ((Upd.hnew No h [] ax).trans n fun b o=>.inr o)
theorem QS{M:Nat→Prop}{h:ad}{s:SliceV}{xs:List (ByteArray×ByteArray)}(y:OwnS iZ 2 ax M h s xs){k:Nat}(x:k<xs.length)(P:xs.length≤4398046511104)
  {K:SliceV→ad→Prop}(G:∀s' h',OwnS iZ 2 ax M h' s' (xs.take k++xs.drop (k+1))→Upd M h h'→K s' h'):
  HC PG fx [.slice s.a s.len s.cap,.int .i64 k,.int .i64 ((k+1:Nat):Int)] [.c .slice] K h:=by
 refine nu s k ((k+1:Nat):Int) ?_;unfold iG ic;have d:=y.len;have C:=y.cap;rcases y.blk with O|⟨b,a,I,u,hc,E⟩
 ·omega
 have p:((xs.take k).flatMap iZ).length=k*2:=by rw[j4 fR,be,bU (by omega)]
 have m:((xs.drop (k+1)).flatMap iZ).length=(xs.length-(k+1))*2:=by rw[j4 fR,aS]
 have e1:xs.flatMap iZ=(xs.take k).flatMap iZ++(iZ xs[k]++(xs.drop (k+1)).flatMap iZ):=by
  rw[←bK,←cF x];exact zN xs k
 rw[e1]at hc;have f:=Ap (xs.drop (k+1));have c:(xs.take k++xs.drop (k+1)).flatMap iZ=(xs.take k).flatMap iZ++(xs.drop (k+1)).flatMap iZ:=cc;have H:(iZ xs[k]).length=2:=rfl;generalize (xs.take k).flatMap iZ=A at p hc c;generalize (xs.drop (k+1)).flatMap iZ=B at m hc f c;generalize iZ xs[k]=X at H hc;rw[I];simp only[d,ak];refine⟨by omega,by omega,by omega,CondP.intro (fun e=>?_) fun _=>?_⟩
 ·have:(k:Int)=((k+1:Nat):Int):=by simpa using e
  omega
 refine Join.plain ⟨by omega,by omega,B,?_,?_⟩
 ·by_cases j:xs.length=k+1
  ·exact⟨m,.inl (bp.1 (by rw[m,j,td,xV]))⟩
  rw[jF (by omega)];refine lS hc m ?_;have:(A++X).length=0+(k+1)*2:=by rw[aj];omega
  rw[show A++(X++B)++a=(A++X)++(B++a) by simp only[aM],cD this,cR m]
 ·rw[sub_zero]
  refine Q2 hc (by simp only[aj];omega) (by omega) f fun N g v=>?_
  have w:a.length=(s.cap-xs.length)*2:=by rw[E,d]
  refine⟨by dsimp only;omega,by dsimp only;omega,?_⟩
  simp only[Bd];rw[jF (by omega)];have J:xs.length-(k-0+(xs.length-(k+1)))=1:=by omega
  have q:(A++(X++B)++a).drop ((k-0)*2+B.length)=(X++B).drop B.length++a:=by
   rw[aM,←cT,cD (show A.length=(k-0)*2 by rw[p,eP]),fK (by rw[aj];omega)]
  have t:(A++(X++B)++a).take ((k-0)*2)=A:=by rw[aM,cR (show A.length=(k-0)*2 by rw[p,eP])]
  rw[q,t]at g;have n:((X++B).drop B.length).length=2:=by rw[aS,aj];omega
  generalize (X++B).drop B.length=D at n g;rw[J];have F:(dw 1 [.string (⟨#[]⟩:ByteArray),.string (⟨#[]⟩:ByteArray)]).length=2:=rfl;have i:(A++B).length=0+(k-0+(xs.length-(k+1)))*2:=by rw[aj,p,m];omega
  refine Gl g (by simp only[aj]at i⊢;omega) fun L o z=>?_
  rw[cR i,←cT,cD i]at o;refine G _ _ ⟨by simp;omega,fR,by simp only;omega,.inr ⟨b,dw 1 [.string (⟨#[]⟩:ByteArray),.string (⟨#[]⟩:ByteArray)]++(D++a).drop (dw 1 [.string (⟨#[]⟩:ByteArray),.string (⟨#[]⟩:ByteArray)]).length,rfl,u,?_,?_⟩⟩ ((v.mono fun _ e=>.inl (e▸u)).tr (z.mono fun _ e=>.inl (e▸u)))
  ·rw[o,c];simp only[aM]
  ·simp only[aj,aS,F,n,w]
   omega
theorem KV{W:Nat→Prop}{h:ad}{s:SliceV}{xs:List (Option Addr)}(c:Sl uB 1 W h s xs)(m:xs.length*8≤140737488355328){K:SliceV→ad→Prop}
  (e:∀s' h',OwnS uB 1 bS (fun b=>h.size≤b) h' s' xs→Upd No h h'→K s' h'):HC PG eM [.slice s.a s.len s.cap] [.c .slice] K h:=by
 refine lZ s ?_;unfold gQ;refine CondP.intro (fun d=>?_) (fun k=>?_)
 ·have d:s.a=none:=by simpa using d
  have hx:xs= []:=by
   by_cases hx:xs= []
   ·exact hx
   ·obtain⟨a,g,_⟩:=c.row hx
    rw[d]at g;cases g
  subst hx;exact e _ _ (OwnS.nil tC) (Upd.refl _ _)
 ·have j:=c.upd (Upd.hnew No h [] bS) (fun _ h=>h.elim)
  refine⟨_,j.srow,?_⟩;refine AppP.own (f:=uB) (M:=fun b=>h.size≤b) (xs:= []) (ys:=xs) ⟨rfl,tC,av _,.inl rfl⟩ c.len rfl (Gp xs) rfl (by omega) (by simpa using m) (by rw[eT];omega) fun s' h' i n=>?_
  exact e _ _ i ((Upd.hnew No h [] bS).trans n fun b o=>.inr o)
theorem QT{M:Nat→Prop}{h:ad}{s:SliceV}{xs:List (Option Addr)}(y:OwnS uB 1 bS M h s xs){k:Nat}(x:k<xs.length)(P:xs.length≤4398046511104)
  {K:SliceV→ad→Prop}(G:∀s' h',OwnS uB 1 bS M h' s' (xs.take k++xs.drop (k+1))→Upd M h h'→K s' h'):
  HC PG eC [.slice s.a s.len s.cap,.int .i64 k,.int .i64 ((k+1:Nat):Int)] [.c .slice] K h:=by
 refine lI s k ((k+1:Nat):Int) ?_;unfold gI;have d:=y.len;have C:=y.cap;rcases y.blk with O|⟨b,a,I,u,hc,E⟩
 ·omega
 have p:((xs.take k).flatMap uB).length=k*1:=by rw[j4 tC,be,bU (by omega)]
 have m:((xs.drop (k+1)).flatMap uB).length=(xs.length-(k+1))*1:=by rw[j4 tC,aS]
 have e1:xs.flatMap uB=(xs.take k).flatMap uB++(uB xs[k]++(xs.drop (k+1)).flatMap uB):=by
  rw[←bK,←cF x];exact zN xs k
 rw[e1]at hc;have f:=Gp (xs.drop (k+1));have c:(xs.take k++xs.drop (k+1)).flatMap uB=(xs.take k).flatMap uB++(xs.drop (k+1)).flatMap uB:=cc;have H:(uB xs[k]).length=1:=rfl;generalize (xs.take k).flatMap uB=A at p hc c;generalize (xs.drop (k+1)).flatMap uB=B at m hc f c;generalize uB xs[k]=X at H hc;rw[I];simp only[d,ak];refine⟨by omega,by omega,by omega,CondP.intro (fun e=>?_) fun _=>?_⟩
 ·have:(k:Int)=((k+1:Nat):Int):=by simpa using e
  omega
 refine Join.plain ⟨by omega,by omega,B,?_,?_⟩
 ·by_cases j:xs.length=k+1
  ·exact⟨m,.inl (bp.1 (by rw[m,j,td,xV]))⟩
  rw[jF (by omega)];refine lS hc m ?_;have:(A++X).length=0+(k+1)*1:=by rw[aj];omega
  rw[show A++(X++B)++a=(A++X)++(B++a) by simp only[aM],cD this,cR m]
 ·rw[sub_zero]
  refine Q2 hc (by simp only[aj];omega) (by omega) f fun N g v=>?_
  have w:a.length=(s.cap-xs.length)*1:=by rw[E,d]
  refine⟨by dsimp only;omega,by dsimp only;omega,?_⟩
  simp only[Bd];rw[jF (by omega)];have J:xs.length-(k-0+(xs.length-(k+1)))=1:=by omega
  have q:(A++(X++B)++a).drop ((k-0)*1+B.length)=(X++B).drop B.length++a:=by
   rw[aM,←cT,cD (show A.length=(k-0)*1 by rw[p,eP]),fK (by rw[aj];omega)]
  have t:(A++(X++B)++a).take ((k-0)*1)=A:=by rw[aM,cR (show A.length=(k-0)*1 by rw[p,eP])]
  rw[q,t]at g;have n:((X++B).drop B.length).length=1:=by rw[aS,aj];omega
  generalize (X++B).drop B.length=D at n g;rw[J];have F:(dw 1 [.pointer none]).length=1:=rfl;have i:(A++B).length=0+(k-0+(xs.length-(k+1)))*1:=by rw[aj,p,m];omega
  refine Gl g (by simp only[aj]at i⊢;omega) fun L o z=>?_
  rw[cR i,←cT,cD i]at o;refine G _ _ ⟨by simp;omega,tC,by simp only;omega,.inr ⟨b,dw 1 [.pointer none]++(D++a).drop (dw 1 [.pointer none]).length,rfl,u,?_,?_⟩⟩ ((v.mono fun _ e=>.inl (e▸u)).tr (z.mono fun _ e=>.inl (e▸u)))
  ·rw[o,c];simp only[aM]
  ·simp only[aj,aS,F,n,w]
   omega
theorem TW{W:Nat→Prop}{h:ad}{s:SliceV}{xs:List (Option Addr)}(c:Sl xh 1 W h s xs)(m:xs.length*8≤140737488355328){K:SliceV→ad→Prop}
  (e:∀s' h',OwnS xh 1 bP (fun b=>h.size≤b) h' s' xs→Upd No h h'→K s' h'):HC PG ey [.slice s.a s.len s.cap] [.c .slice] K h:=by
 refine lx s ?_;unfold gt;refine CondP.intro (fun d=>?_) (fun k=>?_)
 ·have d:s.a=none:=by simpa using d
  have hx:xs= []:=by
   by_cases hx:xs= []
   ·exact hx
   ·obtain⟨a,g,_⟩:=c.row hx
    rw[d]at g;cases g
  subst hx;exact e _ _ (OwnS.nil px) (Upd.refl _ _)
 ·have j:=c.upd (Upd.hnew No h [] bP) (fun _ h=>h.elim)
  refine⟨_,j.srow,?_⟩;refine AppP.own (f:=xh) (M:=fun b=>h.size≤b) (xs:= []) (ys:=xs) ⟨rfl,px,av _,.inl rfl⟩ c.len rfl (Gn xs) rfl (by omega) (by simpa using m) (by rw[eT];omega) fun s' h' i n=>?_
  exact e _ _ i ((Upd.hnew No h [] bP).trans n fun b o=>.inr o)
theorem QR{M:Nat→Prop}{h:ad}{s:SliceV}{xs:List (Option Addr)}(y:OwnS xh 1 bP M h s xs){k:Nat}(x:k<xs.length)(P:xs.length≤4398046511104)
  {K:SliceV→ad→Prop}(G:∀s' h',OwnS xh 1 bP M h' s' (xs.take k++xs.drop (k+1))→Upd M h h'→K s' h'):
  HC PG eg [.slice s.a s.len s.cap,.int .i64 k,.int .i64 ((k+1:Nat):Int)] [.c .slice] K h:=by
 refine kR s k ((k+1:Nat):Int) ?_;unfold gi;have d:=y.len;have C:=y.cap;rcases y.blk with O|⟨b,a,I,u,hc,E⟩
 ·omega
 have p:((xs.take k).flatMap xh).length=k*1:=by rw[j4 px,be,bU (by omega)]
 have m:((xs.drop (k+1)).flatMap xh).length=(xs.length-(k+1))*1:=by rw[j4 px,aS]
 have e1:xs.flatMap xh=(xs.take k).flatMap xh++(xh xs[k]++(xs.drop (k+1)).flatMap xh):=by
  rw[←bK,←cF x];exact zN xs k
 rw[e1]at hc;have f:=Gn (xs.drop (k+1));have c:(xs.take k++xs.drop (k+1)).flatMap xh=(xs.take k).flatMap xh++(xs.drop (k+1)).flatMap xh:=cc;have H:(xh xs[k]).length=1:=rfl;generalize (xs.take k).flatMap xh=A at p hc c;generalize (xs.drop (k+1)).flatMap xh=B at m hc f c;generalize xh xs[k]=X at H hc;rw[I];simp only[d,ak];refine⟨by omega,by omega,by omega,CondP.intro (fun e=>?_) fun _=>?_⟩
 ·have:(k:Int)=((k+1:Nat):Int):=by simpa using e
  omega
 refine Join.plain ⟨by omega,by omega,B,?_,?_⟩
 ·by_cases j:xs.length=k+1
  ·exact⟨m,.inl (bp.1 (by rw[m,j,td,xV]))⟩
  rw[jF (by omega)];refine lS hc m ?_;have:(A++X).length=0+(k+1)*1:=by rw[aj];omega
  rw[show A++(X++B)++a=(A++X)++(B++a) by simp only[aM],cD this,cR m]
 ·rw[sub_zero]
  refine Q2 hc (by simp only[aj];omega) (by omega) f fun N g v=>?_
  have w:a.length=(s.cap-xs.length)*1:=by rw[E,d]
  refine⟨by dsimp only;omega,by dsimp only;omega,?_⟩
  simp only[Bd];rw[jF (by omega)];have J:xs.length-(k-0+(xs.length-(k+1)))=1:=by omega
  have q:(A++(X++B)++a).drop ((k-0)*1+B.length)=(X++B).drop B.length++a:=by
   rw[aM,←cT,cD (show A.length=(k-0)*1 by rw[p,eP]),fK (by rw[aj];omega)]
  have t:(A++(X++B)++a).take ((k-0)*1)=A:=by rw[aM,cR (show A.length=(k-0)*1 by rw[p,eP])]
  rw[q,t]at g;have n:((X++B).drop B.length).length=1:=by rw[aS,aj];omega
  generalize (X++B).drop B.length=D at n g;rw[J];have F:(dw 1 [.pointer none]).length=1:=rfl;have i:(A++B).length=0+(k-0+(xs.length-(k+1)))*1:=by rw[aj,p,m];omega
  refine Gl g (by simp only[aj]at i⊢;omega) fun L o z=>?_
  rw[cR i,←cT,cD i]at o;refine G _ _ ⟨by simp;omega,px,by simp only;omega,.inr ⟨b,dw 1 [.pointer none]++(D++a).drop (dw 1 [.pointer none]).length,rfl,u,?_,?_⟩⟩ ((v.mono fun _ e=>.inl (e▸u)).tr (z.mono fun _ e=>.inl (e▸u)))
  ·rw[o,c];simp only[aM]
  ·simp only[aj,aS,F,n,w]
   omega
end Go.Proofs
namespace Go.Proofs
open Go.Lift
abbrev Pr:=ByteArray×ByteArray
theorem EC{a b:ByteArray}:a.toList=b.toList↔a=b:=by
 constructor
 ·intro h
  rw[ByteArray.toList_eq,ByteArray.toList_eq]at h;cases a;cases b;simp at h;subst h;rfl
 ·rintro rfl;rfl
def kl(a b:ByteArray):Prop:=cX a.toList b.toList=true
instance (a b:ByteArray):Decidable (kl a b):=inferInstanceAs (Decidable (_=true))
theorem VF{a b:ByteArray}:kl a b↔a.toList<b.toList:=by unfold kl;rw[bytesLess_eq,decide_eq_true_iff]
theorem fw(a:ByteArray):¬kl a a:=by rw[VF];exact List.lt_irrefl _
theorem rk{a b c:ByteArray}(h:kl a b)(k:kl b c):kl a c:=by rw[VF]at*;exact List.lt_trans h k
theorem tri:∀x y:List UInt8,cX x y=false→x≠y→cX y x=true
 | [],[],_,h=>absurd rfl h
 | [],_::_,h,_=>by simp[cX]at h
 |_::_,[],_,_=>rfl
 |a::x,b::y,h,hn=>by
  simp only[cX,Bool.or_eq_false_iff,decide_eq_false_iff_not,Bool.and_eq_false_iff]at h;simp only[cX,Bool.or_eq_true,decide_eq_true_iff,Bool.and_eq_true];by_cases e:a=b
  ·subst e
   right;refine⟨by simp,tri x y ?_ fun e=>hn (by rw[e])⟩
   rcases h.2 with h|h
   ·simp at h
   ·exact h
  ·left
   have c:=h.1;rw[UInt8.lt_iff_toNat_lt]at c⊢;have:a.toNat≠b.toNat:=fun h=>e (UInt8.toNat_inj.1 h)
   omega
theorem Hv{a b:ByteArray}(h:¬kl a b)(k:a≠b):kl b a:=tri _ _ (by unfold kl at h;simpa using h) fun e=>k (EC.1 e)
def Mb(a b:ByteArray):Int:=if kl a b then-1 else if a=b then 0 else 1
theorem Oa{x:ByteArray}{h:ad}{K:Bool→ad→Prop}(a:K false h):HC PG oH [.string x] [.c .bool] K h:=by
 refine Gg x ?_;unfold yC;simpa using a
theorem H5{a b:ByteArray}{h:ad}{K:Int→ad→Prop}(c:K (Mb a b) h):HC PG mg [.string a,.string b] [.c (.int .i64)] K h:=by
 refine DB a b ?_;unfold vx;refine Oa (Oa (af.2 (af.2 ?_)));unfold Mb at c;refine CondP.intro (fun e=>?_) fun e=>?_
 ·rw[if_pos (show kl a b from e)]at c;exact c
 ·have d:¬kl a b:=fun h=>by rw[show cX a.toList b.toList=true from h]at e;cases e
  rw[if_neg d]at c;rw[e];refine CondP.intro (fun e2=>?_) fun e2=>?_
  ·rw[if_neg (fun h=>by subst h;simp at e2)]at c;exact c
  ·have:a.toList=b.toList:=by simpa using e2
   rw[if_pos (EC.1 this)]at c;exact c
theorem Vt{p:Pr}{k:ByteArray}{h:ad}{K:Int→ad→Prop}(a:∀h',Upd No h h'→K (Mb p.1 k) h'):HC PG sU [.agg #[.string p.1,.string p.2],.string k] [.c (.int .i64)] K h:=by
 refine Mu p k ?_;unfold DK ag eu qg;have b1:=bI h [.string p.1,.string p.2] ax;refine⟨p.1,by rw[df,ci,bc b1];rfl,H5 (a _ (Upd.hnew No h _ _))⟩
abbrev fe(l:List Pr):Prop:=l.Pairwise fun p q=>kl p.1 q.1
def pos(l:List Pr)(k:ByteArray):Nat:=(l.takeWhile fun p=>decide (kl p.1 k)).length
def cG(l:List Pr)(k:ByteArray):Bool:=l.any fun p=>decide (p.1=k)
theorem Vo{l:List Pr}{k:ByteArray}{i:Nat}(hi:i≤l.length)(a:∀j (h:j<l.length),j<i→kl l[j].1 k)(b:∀(h:i<l.length),¬kl l[i].1 k):pos l k=i:=by
 unfold pos;induction l generalizing i with
 |nil=>simp at hi;simp[hi]
 |cons p l ih=>
  rw[List.takeWhile_cons];cases i with
  |zero=>
   have:=b (by simp);simp only[List.getElem_cons_zero]at this;rw[if_neg (by simpa using this)];rfl
  |succ i=>
   have:=a 0 (by simp) (by omega);simp only[List.getElem_cons_zero]at this;rw[if_pos (by simpa using this),List.length_cons];congr 1
   refine ih (by simpa using hi) (fun j d c=>?_) fun h=>?_
   ·have:=a (j+1) (by simpa using d) (by omega)
    simpa using this
   ·have:=b (by simpa using h)
    simpa using this
theorem Vp(l:List Pr)(k:ByteArray):pos l k≤l.length:=by
 unfold pos;exact(List.takeWhile_prefix _).length_le
theorem L0{W:Nat→Prop}{h:ad}{s:SliceV}{l:List Pr}(Y:Sl iZ 2 W h s l)(hr:fe l)(hn:l.length≤1000000000)(k:ByteArray){K:Int×Bool→ad→Prop}
  (E:∀h',Upd No h h'→K ((pos l k:Int),cG l k) h'):HC PG rv [.slice s.a s.len s.cap,.string k] [.c (.int .i64),.c .bool] K h:=by
 refine O1 s k ?_;unfold FI;refine jk s k _ ?_;unfold eV cU CQ bL mW;have U:=Y.len;have H:∀{p:Pr} {h:ad} {K:Int→ad→Prop},(∀h',Upd No h h'→K (Mb p.1 k) h')→HV PG (.func (.func sU) #[] #[]) [.agg #[.string p.1,.string p.2],.string k] [.c (.int .i64)] K h:=fun E=>HV.mk' (Vt E)
 refine LoopP.ghost (fun(g:Nat×Nat) (t:Int×Int) h'=>t.1=(g.1:Int)∧t.2=(g.2:Int)∧g.1≤g.2∧g.2≤l.length∧Upd No h h'∧(∀j (R:j<l.length),j<g.1→kl l[j].1 k)∧(∀j (R:j<l.length),g.2≤j→¬kl l[j].1 k)) (fun g=>g.2-g.1) (0,l.length)
  ⟨rfl,by simp only;omega,by simp,by simp,Upd.refl _ _,fun j R h=>by omega,fun j R h=>by simp only at h;omega⟩ ?_
 rintro I ⟨i,j⟩ ⟨ti,tj⟩ h' ⟨e1,e2,A,z,N,o,v⟩ V;simp only at e1 e2 A z o v;subst e1 e2;have F:=Y.upd N fun _ h=>h.elim
 have mono:∀a b (D:a<l.length) (X:b<l.length),a<b→kl l[a].1 l[b].1:=fun a b D X Q=>List.pairwise_iff_getElem.1 hr a b D X Q
 refine aF (fun u=>?_) fun P=>?_
 ·have u:i<j:=by have:(i:Int)<(j:Int):=u;omega
  have em:ac .i64 (gy (ac .u64 (ac .i64 ((i:Int)+(j:Int)))) (2^(min (1:Int).toNat (ai .u64))))=(((i+j)/2:Nat):Int):=by
   have e3:(2^(min (1:Int).toNat (ai .u64)):Int)=2:=rfl;rw[e3,kO (x:=(i:Int)+(j:Int)) (by omega),Go.IntWalk.u64_in _ (by omega),Int.fdiv_eq_ediv_of_nonneg _ (by omega),kO (by omega)];omega
  refine⟨by decide,?_⟩;simp only[Bd];rw[em];generalize hm:(i+j)/2=m;have B:m<l.length:=by omega
  obtain⟨a,D,_,J⟩:=F.at (ah B);refine⟨by omega,a,D,l[m].1,J 0 _ rfl,l[m].2,J 1 _ rfl,H fun Z w=>?_⟩
  refine aF (fun d=>?_) fun G=>?_
  ·have c:kl l[m].1 k:=by
    unfold Mb at d;by_cases c:kl l[m].1 k
    ·exact c
    ·rw[if_neg c]at d;split at d<;>omega
   refine V (m+1,j) _ _ ⟨by simp only;rw[kO (by omega)];omega,rfl,by simp only;omega,z,N.tr w,fun q y C=>?_,v⟩ (by simp only;omega)
   simp only at C;rcases cC q m with h|h
   ·exact rk (mono q m y B h) c
   ·have:q=m:=by omega
    subst this;exact c
  ·have f:¬kl l[m].1 k:=fun c=>G (by unfold Mb;rw[if_pos c];decide)
   refine V (i,m) _ _ ⟨rfl,rfl,by simp only;omega,by simp only;omega,N.tr w,o,fun q y C O=>?_⟩ (by simp only;omega)
   simp only at C;rcases cC m q with h|h
   ·exact f (rk (mono m q B y h) O)
   ·have:q=m:=by omega
    subst this;exact f O
 ·have A:i=j:=by have:¬(i:Int)<(j:Int):=P;omega
  subst A;have L:pos l k=i:=Vo z o fun hi=>v i hi (av _)
  rw[L]at E;refine aF (fun u=>?_) fun S=>?_
  ·have n:i<l.length:=by have:(i:Int)<(s.len:Int):=u;omega
   obtain⟨a,D,_,J⟩:=F.at (ah n);refine⟨by simp only;omega,a,D,l[i].1,J 0 _ rfl,l[i].2,J 1 _ rfl,H fun Z w=>?_⟩
   have f:=v i n (av _);have T:(Mb l[i].1 k==(0:Int))=cG l k:=by
    unfold Mb cG;rw[if_neg f,Bool.eq_iff_iff,List.any_eq_true];constructor
    ·intro h
     split at h
     ·rename_i e;exact⟨l[i],List.getElem_mem n,decide_eq_true e⟩
     ·simp at h
    ·rintro⟨p,L,e⟩
     have e:=of_decide_eq_true e;obtain⟨q,y,rfl⟩:=List.mem_iff_getElem.1 L;have:q=i:=by
      rcases Nat.lt_trichotomy q i with h|h|h
      ·exact absurd (e▸o q y h) (fw _)
      ·exact h
      ·exact absurd (e▸mono i q n y h) f
     subst this;rw[if_pos e];rfl
   rw[T];exact E _ (N.tr w)
  ·have n:i=l.length:=by have:¬(i:Int)<(s.len:Int):=S;omega
   have T:cG l k=false:=by
    unfold cG;rw[List.any_eq_false];intro p L e;have e:=of_decide_eq_true e;obtain⟨q,y,rfl⟩:=List.mem_iff_getElem.1 L;exact absurd (e▸o q y (by omega)) (fw _)
   rw[T]at E;exact E _ N
end Go.Proofs
