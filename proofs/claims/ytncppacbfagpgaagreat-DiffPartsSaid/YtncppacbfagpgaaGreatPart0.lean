/- A part of the proof that the named laws of this program answer true, whatever the input. -/
import Derived.Test.YtncppacbfagpgaaGreatTreeF0
import Derived.Test.YtncppacbfagpgaaGreatTreeF1
import Derived.Test.YtncppacbfagpgaaGreatTreeF2
import Derived.Test.YtncppacbfagpgaaGreatLaw0
import Derived.Test.YtncppacbfagpgaaGreatLift3
import Derived.Lib.Overlaps
import Derived.Sort.Walk0
open BitVec renaming ofInt→aw
open ByteArray renaming size_extract→qr
open Int renaming fdiv→db,toNat_natCast→aS
open List renaming flatMap_cons→aK,take_length→bV,length_take→aI,length_drop→aN,flatMap_append→bI,drop_zero→cy,append_assoc→ao,take_append_of_le_length→fH,take_of_length_le→aW,length_append→ac,drop_left→fS,take_left→gv,size_toArray→dB,drop_eq_getElem_cons→gY,length_eq_zero_iff→av,drop_left'→cp,take_left'→cL,drop_drop→dC,drop_append_of_le_length→fI,getElem_cons_zero→fk,getElem?_eq_getElem→ai,mem_cons_self→ar,mem_cons_of_mem→aD,mem_cons→az,pairwise_cons→aA,append_eq_nil_iff→jd,mem_singleton→aC
open Nat renaming zero_add→aP,sub_self→dk,le_refl→aq,lt_or_ge→bX,min_eq_left→bo,sub_zero→dL,min→dM,add_one_mul→gR,one_mul→rJ,le_mul_of_pos_left→qj,min_eq_right→gd,zero_mul→wQ
open Option renaming isSome_iff_exists→iw
namespace Go.Proofs
open Go.Lift
theorem Nu(n:Int):0≤IntKind.wrap .u64 n∧IntKind.wrap .u64 n<18446744073709551616:=by rw[IntKind.wrap_u64];omega
theorem cS{x:Int}(h: -4611686018427387904≤x∧x≤4611686018427387904):IntKind.wrap .i64 x=x:=Go.IntWalk.i64_in _ (by omega)
theorem iD{i n:Nat}(h:i<n)(hn:n≤4611686018427387904):IntKind.wrap .i64 ((i:Int)+1)=((i+1:Nat):Int):=by rw[cS (by omega)];omega
theorem xV{h:af}{b i:Nat}{c:Array Value}{t:TypeId}{v:Value}{k:af→Prop}(hb:h[b]? =some (.cells c t (0,0)))
  (hk:∀h',h'[b]? =some (.cells (c.setIfInBounds i v) t (0,0))→Upd (· =b) h h'→k h'):At (hset h ⟨b,i,none⟩ v) k:=by
 refine hk _ ?_ (Upd.hset _ _ rfl);rw[vh hb,jB hb]
def Tw(a b:Int):Int:=IntKind.wrap .u64 (aw (IntKind.bits .u64) a&&&aw (IntKind.bits .u64) b).toNat
def gH(a b:Int):Int:=IntKind.wrap .u64 (aw (IntKind.bits .u64) a^^^aw (IntKind.bits .u64) b).toNat
def SK(a b:Int):Int:=IntKind.wrap .u64 (aw (IntKind.bits .u64) a|||aw (IntKind.bits .u64) b).toNat
def NL(x n:Int):Int:=
 SK (IntKind.wrap .u64 (x*2^(min (Tw (IntKind.wrap .u64 n) 63).toNat (IntKind.bits .u64)))) (db x (2^(min (IntKind.wrap .u64 (64-Tw (IntKind.wrap .u64 n) 63)).toNat (IntKind.bits .u64))))
theorem CC{x n:Int}{h:af}{K:Int→af→Prop}(hk:K (NL x n) h):HC PG c7 [.int .u64 x,.int .i64 n] [.c (.int .u64)] K h:=by
 refine uT x n ?_;unfold oJ;exact⟨(Nu _).1,(Nu _).1,hk⟩
abbrev Q4:=Int×Int×Int×Int
def q4(s:Q4):Array Value:= #[.int .u64 s.1,.int .u64 s.2.1,.int .u64 s.2.2.1,.int .u64 s.2.2.2]
def UH(a b:Int):Int:=IntKind.wrap .u64 (a+b)
def TG(s:Q4):Q4:=(UH s.1 s.2.1,s.2)
def T3(s:Q4):Q4:=(s.1,gH (NL s.2.1 13) s.1,s.2.2)
def UP(s:Q4):Q4:=(NL s.1 32,s.2)
def U9(s:Q4):Q4:=(s.1,s.2.1,UH s.2.2.1 s.2.2.2,s.2.2.2)
def Vy(s:Q4):Q4:=(s.1,s.2.1,s.2.2.1,gH (NL s.2.2.2 16) s.2.2.1)
def VG(s:Q4):Q4:=(UH s.1 s.2.2.2,s.2)
def VY(s:Q4):Q4:=(s.1,s.2.1,s.2.2.1,gH (NL s.2.2.2 21) s.1)
def Wa(s:Q4):Q4:=(s.1,s.2.1,UH s.2.2.1 s.2.1,s.2.2.2)
def s09(s:Q4):Q4:=(s.1,gH (NL s.2.1 17) s.2.2.1,s.2.2)
def VF(s:Q4):Q4:=(s.1,s.2.1,NL s.2.2.1 32,s.2.2.2)
def NK(s:Q4):Q4:=VF (s09 (Wa (VY (VG (Vy (U9 (UP (T3 (TG s)))))))))
def pM:Nat→Q4→Q4
 |0,s=>s
 |n+1,s=>pM n (NK s)
theorem qC{h:af}{b i:Nat}{t:TypeId}{s s':Q4}{v:Value}{k:af→Prop}(hb:h[b]? =some (.cells (q4 s) t (0,0))) (e:(q4 s).setIfInBounds i v=q4 s')
  (hk:∀h',h'[b]? =some (.cells (q4 s') t (0,0))→Upd (· =b) h h'→k h'):At (hset h ⟨b,i,none⟩ v) k:=
 xV hb fun h' hb' hu=>hk h' (e▸hb') hu
theorem Ip{n:Nat}(hn:n≤100){h:af}{b:Nat}{t:TypeId}{s:Q4}(hb:h[b]? =some (.cells (q4 s) t (0,0))) {K:Unit→af→Prop}
  (hk:∀h',h'[b]? =some (.cells (q4 (pM n s)) t (0,0))→Upd (· =b) h h'→K () h'):HC PG jv [.pointer (some ⟨b,0,none⟩),.int .i64 n] [] K h:=by
 refine Ad _ _ ?_;unfold tA ae bS;refine LoopP.ghost (fun(g:Nat×Q4) (t':Int) h'=>t'=(g.1:Int)∧g.1≤n∧h'[b]? =some (.cells (q4 g.2) t (0,0))∧Upd (· =b) h h'∧pM (n-g.1) g.2=pM n s) (fun g=>n-g.1) (0,s) ⟨rfl,Nat.zero_le _,hb,Upd.refl _ _,rfl⟩ ?_
 rintro I ⟨i,s1⟩ t' h' ⟨ht,hi,hb1,hu,hr⟩ hI;simp only at ht hi hb1 hr;subst ht;refine ax (fun hlt=>?_) fun hge=>?_
 ·have hlt:i<n:=by omega
  have c:∀{h:af} {s:Q4} {i:Nat},h[b]? =some (.cells (q4 s) t (0,0))→aL h ⟨b,0+i,none⟩=(q4 s)[i]?:=fun hb=>by rw[aP];exact bf hb
  have w:∀{h:af} {s:Q4} {i:Nat},h[b]? =some (.cells (q4 s) t (0,0))→i<4→Wr h ⟨b,0+i,none⟩:=fun hb hi=>by rw[aP];exact iR hb hi
  simp only[show((0:Int)).toNat*1=0 from rfl,show((1:Int)).toNat*1=1 from rfl,show((2:Int)).toNat*1=2 from rfl,show((3:Int)).toNat*1=3 from rfl]
  refine⟨_,rfl,by decide,_,c (i:=0) hb1,_,rfl,by decide,_,c (i:=1) hb1,_,rfl,by decide,w (i:=0) hb1 (by decide),qC (s':=TG s1) hb1 rfl fun h2 hb2 hu2=>?_⟩
  refine⟨_,rfl,by decide,_,c (i:=1) hb2,_,rfl,by decide,_,c (i:=0) hb2,_,rfl,CC ⟨c (i:=0) hb2,by decide,w (i:=1) hb2 (by decide),qC (s':=T3 (TG s1)) hb2 rfl fun h3 hb3 hu3=>?_⟩⟩
  refine⟨_,rfl,by decide,_,c (i:=0) hb3,_,rfl,CC ⟨by decide,w (i:=0) hb3 (by decide),qC (s':=UP (T3 (TG s1))) hb3 rfl fun h4 hb4 hu4=>?_⟩⟩
  refine⟨_,rfl,by decide,_,c (i:=2) hb4,_,rfl,by decide,_,c (i:=3) hb4,_,rfl,by decide,w (i:=2) hb4 (by decide),qC (s':=U9 (UP (T3 (TG s1)))) hb4 rfl fun h5 hb5 hu5=>?_⟩
  refine⟨_,rfl,by decide,_,c (i:=3) hb5,_,rfl,by decide,_,c (i:=2) hb5,_,rfl,CC ⟨c (i:=2) hb5,by decide,w (i:=3) hb5 (by decide),qC (s':=Vy (U9 (UP (T3 (TG s1))))) hb5 rfl fun h6 hb6 hu6=>?_⟩⟩
  refine⟨_,rfl,by decide,_,c (i:=0) hb6,_,rfl,by decide,_,c (i:=3) hb6,_,rfl,by decide,w (i:=0) hb6 (by decide),qC (s':=VG (Vy (U9 (UP (T3 (TG s1)))))) hb6 rfl fun h7 hb7 hu7=>?_⟩
  refine⟨_,rfl,by decide,_,c (i:=3) hb7,_,rfl,by decide,_,c (i:=0) hb7,_,rfl,CC ⟨c (i:=0) hb7,by decide,w (i:=3) hb7 (by decide),qC (s':=VY (VG (Vy (U9 (UP (T3 (TG s1))))))) hb7 rfl fun h8 hb8 hu8=>?_⟩⟩
  refine⟨_,rfl,by decide,_,c (i:=2) hb8,_,rfl,by decide,_,c (i:=1) hb8,_,rfl,by decide,w (i:=2) hb8 (by decide),qC (s':=Wa (VY (VG (Vy (U9 (UP (T3 (TG s1)))))))) hb8 rfl fun h9 hb9 hu9=>?_⟩
  refine⟨_,rfl,by decide,_,c (i:=1) hb9,_,rfl,by decide,_,c (i:=2) hb9,_,rfl,CC ⟨c (i:=2) hb9,by decide,w (i:=1) hb9 (by decide),qC (s':=s09 (Wa (VY (VG (Vy (U9 (UP (T3 (TG s1))))))))) hb9 rfl fun h10 hb10 hu10=>?_⟩⟩
  refine⟨_,rfl,by decide,_,c (i:=2) hb10,_,rfl,CC ⟨by decide,w (i:=2) hb10 (by decide),qC (s':=NK s1) hb10 rfl fun h11 hb11 hu11=>?_⟩⟩
  rw[iD hlt (by omega)];refine hI (i+1,NK s1) _ _ ⟨rfl,hlt,hb11,hu.tr (hu2.tr (hu3.tr (hu4.tr (hu5.tr (hu6.tr (hu7.tr (hu8.tr (hu9.tr (hu10.tr hu11))))))))),?_⟩ (by simp only;omega);simp only;rw[←hr,show n-i=(n-(i+1))+1 by omega];rfl
 ·obtain rfl:i=n:=by omega
  rw[dk]at hr;have hr:s1=pM i s:=hr;rw[←hr]at hk;exact hk _ hb1 hu
end Go.Proofs
namespace Go.Proofs
open Go.Lift
def UB(s:ByteArray)(i:Nat):Int:=match s[i]? with|some b=>(b.toNat:Int)|none=>0
def VX(b:Int)(n:Int):Int:=IntKind.wrap .u64 ((IntKind.wrap .u64 b)*2^(min n.toNat (IntKind.bits .u64)))
def wj(s:ByteArray):Nat→Int→Int
 |0,t=>t
 |k+1,t=>wj s k (SK t (if k=0 then IntKind.wrap .u64 (UB s 0)else VX (UB s k) ((8*k:Nat):Int)))
def DJ(s:ByteArray):Int:=wj s s.size 0
theorem uf{s:ByteArray}{i:Nat}(h:i<s.size):∃b,s[i]? =some b∧UB s i=(b.toNat:Int):=⟨s[i],getElem?_pos s i h,by simp[UB,getElem?_pos s i h]⟩
theorem Pw{s:ByteArray}(hs:s.size≤8){h:af}{K:Int→af→Prop}(hk:K (DJ s) h):HC PG wy [.string s] [.c (.int .u64)] K h:=by
 refine O2 s ?_;unfold GR;refine Join.intro (fun t h'=>h'=h∧1≤s.size∧wj s 1 t=wj s s.size 0) (fun R1 hR1=>?_) ?_
 ·refine Join.intro (fun t h'=>h'=h∧2≤s.size∧wj s 2 t=wj s s.size 0) (fun R2 hR2=>?_) ?_
  ·refine Join.intro (fun t h'=>h'=h∧3≤s.size∧wj s 3 t=wj s s.size 0) (fun R3 hR3=>?_) ?_
   ·refine Join.intro (fun t h'=>h'=h∧4≤s.size∧wj s 4 t=wj s s.size 0) (fun R4 hR4=>?_) ?_
    ·refine Join.intro (fun t h'=>h'=h∧5≤s.size∧wj s 5 t=wj s s.size 0) (fun R5 hR5=>?_) ?_
     ·refine Join.intro (fun t h'=>h'=h∧6≤s.size∧wj s 6 t=wj s s.size 0) (fun R6 hR6=>?_) ?_
      ·refine Join.intro (fun t h'=>h'=h∧7≤s.size∧wj s 7 t=wj s s.size 0) (fun R7 hR7=>?_) ?_
       ·refine CondP.intro (fun e=>?_) fun e8=>?_
        ·have e:s.size=8:=by have:=of_decide_eq_true (by simpa using e:decide ((s.size:Int)=8)=true);omega
         obtain⟨b,hb,hv⟩:=uf (s:=s) (i:=7) (by omega);refine⟨b,by decide,hb,by decide,hR7 _ _ ⟨rfl,by omega,?_⟩⟩
         rw[e,←hv];rfl
        refine CondP.intro (fun e=>?_) fun e7=>?_
        ·have e:s.size=7:=by have:=of_decide_eq_true (by simpa using e:decide ((s.size:Int)=7)=true);omega
         exact hR7 _ _ ⟨rfl,by omega,by rw[e]⟩
        refine CondP.intro (fun e=>?_) fun e6=>?_
        ·have e:s.size=6:=by have:=of_decide_eq_true (by simpa using e:decide ((s.size:Int)=6)=true);omega
         exact hR6 _ _ ⟨rfl,by omega,by rw[e]⟩
        refine CondP.intro (fun e=>?_) fun e5=>?_
        ·have e:s.size=5:=by have:=of_decide_eq_true (by simpa using e:decide ((s.size:Int)=5)=true);omega
         exact hR5 _ _ ⟨rfl,by omega,by rw[e]⟩
        refine CondP.intro (fun e=>?_) fun e4=>?_
        ·have e:s.size=4:=by have:=of_decide_eq_true (by simpa using e:decide ((s.size:Int)=4)=true);omega
         exact hR4 _ _ ⟨rfl,by omega,by rw[e]⟩
        refine CondP.intro (fun e=>?_) fun e3=>?_
        ·have e:s.size=3:=by have:=of_decide_eq_true (by simpa using e:decide ((s.size:Int)=3)=true);omega
         exact hR3 _ _ ⟨rfl,by omega,by rw[e]⟩
        refine CondP.intro (fun e=>?_) fun e2=>?_
        ·have e:s.size=2:=by have:=of_decide_eq_true (by simpa using e:decide ((s.size:Int)=2)=true);omega
         exact hR2 _ _ ⟨rfl,by omega,by rw[e]⟩
        refine CondP.intro (fun e=>?_) fun e1=>?_
        ·have e:s.size=1:=by have:=of_decide_eq_true (by simpa using e:decide ((s.size:Int)=1)=true);omega
         exact hR1 _ _ ⟨rfl,by omega,by rw[e]⟩
        have e:s.size=0:=by
         have q1:¬(s.size:Int)=1:=by simpa using e1
         have q2:¬(s.size:Int)=2:=by simpa using e2
         have q3:¬(s.size:Int)=3:=by simpa using e3
         have q4:¬(s.size:Int)=4:=by simpa using e4
         have q5:¬(s.size:Int)=5:=by simpa using e5
         have q6:¬(s.size:Int)=6:=by simpa using e6
         have q7:¬(s.size:Int)=7:=by simpa using e7
         have q8:¬(s.size:Int)=8:=by simpa using e8
         omega
        unfold DJ at hk;rw[e]at hk;exact hk
       ·rintro t _ ⟨rfl,hsz,ht⟩
        obtain⟨b,hb,hv⟩:=uf (s:=s) (i:=6) (by omega);refine⟨b,by decide,hb,by decide,hR6 _ _ ⟨rfl,by omega,?_⟩⟩
        rw[←ht,←hv];rfl
      ·rintro t _ ⟨rfl,hsz,ht⟩
       obtain⟨b,hb,hv⟩:=uf (s:=s) (i:=5) (by omega);refine⟨b,by decide,hb,by decide,hR5 _ _ ⟨rfl,by omega,?_⟩⟩
       rw[←ht,←hv];rfl
     ·rintro t _ ⟨rfl,hsz,ht⟩
      obtain⟨b,hb,hv⟩:=uf (s:=s) (i:=4) (by omega);refine⟨b,by decide,hb,by decide,hR4 _ _ ⟨rfl,by omega,?_⟩⟩
      rw[←ht,←hv];rfl
    ·rintro t _ ⟨rfl,hsz,ht⟩
     obtain⟨b,hb,hv⟩:=uf (s:=s) (i:=3) (by omega);refine⟨b,by decide,hb,by decide,hR3 _ _ ⟨rfl,by omega,?_⟩⟩
     rw[←ht,←hv];rfl
   ·rintro t _ ⟨rfl,hsz,ht⟩
    obtain⟨b,hb,hv⟩:=uf (s:=s) (i:=2) (by omega);refine⟨b,by decide,hb,by decide,hR2 _ _ ⟨rfl,by omega,?_⟩⟩
    rw[←ht,←hv];rfl
  ·rintro t _ ⟨rfl,hsz,ht⟩
   obtain⟨b,hb,hv⟩:=uf (s:=s) (i:=1) (by omega);refine⟨b,by decide,hb,by decide,hR1 _ _ ⟨rfl,by omega,?_⟩⟩
   rw[←ht,←hv];rfl
 ·rintro t _ ⟨rfl,hsz,ht⟩
  obtain⟨b,hb,hv⟩:=uf (s:=s) (i:=0) (by omega);refine⟨b,by decide,hb,?_⟩
  unfold DJ at hk;rw[←ht]at hk;rw[←hv];exact hk
end Go.Proofs
namespace Go.Proofs
open Go.Lift
def FA(m:Int)(s:Q4):Q4:=
 let r:=pM 2 (s.1,s.2.1,s.2.2.1,gH s.2.2.2 m)
 (gH r.1 m,r.2)
theorem PD{m:Int}{h:af}{b:Nat}{t:TypeId}{s:Q4}(hb:h[b]? =some (.cells (q4 s) t (0,0))) {K:Unit→af→Prop}
  (hk:∀h',h'[b]? =some (.cells (q4 (FA m s)) t (0,0))→Upd (· =b) h h'→K () h'):HC PG nu [.pointer (some ⟨b,0,none⟩),.int .u64 m] [] K h:=by
 refine Di _ _ ?_;unfold vE ae bS;have c:∀{h:af} {s:Q4} {i:Nat},h[b]? =some (.cells (q4 s) t (0,0))→aL h ⟨b,0+i,none⟩=(q4 s)[i]?:=fun hb=>by rw[aP];exact bf hb
 have w:∀{h:af} {s:Q4} {i:Nat},h[b]? =some (.cells (q4 s) t (0,0))→i<4→Wr h ⟨b,0+i,none⟩:=fun hb hi=>by rw[aP];exact iR hb hi
 simp only[show((0:Int)).toNat*1=0 from rfl,show((3:Int)).toNat*1=3 from rfl]
 refine⟨_,rfl,by decide,_,c (i:=3) hb,_,rfl,by decide,w (i:=3) hb (by decide),qC (s':=(s.1,s.2.1,s.2.2.1,gH s.2.2.2 m)) hb rfl fun h2 hb2 hu2=>?_⟩
 refine Ip (n:=2) (by omega) hb2 fun h3 hb3 hu3=>?_
 have et:FA m s=(gH (pM 2 (s.1,s.2.1,s.2.2.1,gH s.2.2.2 m)).1 m,(pM 2 (s.1,s.2.1,s.2.2.1,gH s.2.2.2 m)).2):=by unfold FA;rfl
 rw[et]at hk;generalize pM 2 (s.1,s.2.1,s.2.2.1,gH s.2.2.2 m)=r at hb3 hk;refine⟨_,rfl,by decide,_,c (i:=0) hb3,_,rfl,by decide,w (i:=0) hb3 (by decide),qC (s':=(gH r.1 m,r.2)) hb3 rfl fun h4 hb4 hu4=>?_⟩
 exact hk _ hb4 (hu2.tr (hu3.tr hu4))
def FD:Nat→ByteArray→Q4→ByteArray×Q4
 |0,s,q=>(s,q)
 |n+1,s,q=>if 8≤s.size then FD n (s.extract 8 s.size) (FA (DJ (s.extract 0 8)) q)else(s,q)
def VO(r:Q4):Int:=gH (gH (gH r.1 r.2.1) r.2.2.1) r.2.2.2
def VN(q:Q4):Int:=VO (pM 4 (q.1,q.2.1,gH q.2.2.1 255,q.2.2.2))
def V7(n:Nat)(g:ByteArray×Q4):Int:=VN (FA (SK (DJ g.1) (VX (n:Int) 56)) g.2)
def TU(k0 k1:Int)(s:ByteArray):Int:=
 V7 s.size (FD s.size s (gH k0 8317987319222330741,gH k1 7237128888997146477,gH k0 7816392313619706465,gH k1 8387220255154660723))
theorem Ut{h29:af}{b:Nat}{t:TypeId}{r:Q4}(hb:h29[b]? =some (.cells (q4 r) t (0,0))) {K:Int→Prop} (hk:K (VO r)):
  (((0:Int)≤(0:Int)∧(0:Int)<((4:Nat):Int))∧
   ∃v30:Int,aL h29 (adr ⟨b,0,none⟩ ((0:Int).toNat*1))=some (.int .u64 v30)∧
   (((0:Int)≤(1:Int)∧(1:Int)<((4:Nat):Int))∧
    ∃v31:Int,aL h29 (adr ⟨b,0,none⟩ ((1:Int).toNat*1))=some (.int .u64 v31)∧
    Bd (IntKind.wrap .u64 (aw (IntKind.bits .u64) v30^^^aw (IntKind.bits .u64) v31).toNat:Int) (fun n32=>
     (((0:Int)≤(2:Int)∧(2:Int)<((4:Nat):Int))∧
      ∃v33:Int,aL h29 (adr ⟨b,0,none⟩ ((2:Int).toNat*1))=some (.int .u64 v33)∧
      Bd (IntKind.wrap .u64 (aw (IntKind.bits .u64) n32^^^aw (IntKind.bits .u64) v33).toNat:Int) (fun n34=>
       (((0:Int)≤(3:Int)∧(3:Int)<((4:Nat):Int))∧
        ∃v35:Int,aL h29 (adr ⟨b,0,none⟩ ((3:Int).toNat*1))=some (.int .u64 v35)∧
        Bd (IntKind.wrap .u64 (aw (IntKind.bits .u64) n34^^^aw (IntKind.bits .u64) v35).toNat:Int) (fun n36=>
         K n36))))))):=by
 have c:∀{i:Nat},aL h29 ⟨b,0+i,none⟩=(q4 r)[i]?:=by intro i;rw[aP];exact bf hb
 exact⟨by decide,_,c (i:=0),by decide,_,c (i:=1),by decide,_,c (i:=2),by decide,_,c (i:=3),hk⟩
theorem Us{h24:af}{b:Nat}{t:TypeId}{q:Q4}(hb:h24[b]? =some (.cells (q4 q) t (0,0))) {K:Unit→af→Prop}
  (hk:∀h',h'[b]? =some (.cells (q4 (pM 4 (q.1,q.2.1,gH q.2.2.1 255,q.2.2.2))) t (0,0))→Upd (· =b) h24 h'→K () h'):
  (((0:Int)≤(2:Int)∧(2:Int)<((4:Nat):Int))∧
   ∃v25:Int,aL h24 (adr ⟨b,0,none⟩ ((2:Int).toNat*1))=some (.int .u64 v25)∧
   Bd (IntKind.wrap .u64 (aw (IntKind.bits .u64) v25^^^aw (IntKind.bits .u64) 255).toNat:Int) (fun n26=>
    (((0:Int)≤(2:Int)∧(2:Int)<((4:Nat):Int))∧
     (Wr h24 (adr ⟨b,0,none⟩ ((2:Int).toNat*1))∧
      At (hset h24 (adr ⟨b,0,none⟩ ((2:Int).toNat*1)) (.int .u64 n26)) (fun h27=>
       HC PG jv [.pointer (some ⟨b,0,none⟩),.int .i64 4] [] K h27))))):=by
 have c:∀{i:Nat},aL h24 ⟨b,0+i,none⟩=(q4 q)[i]?:=by intro i;rw[aP];exact bf hb
 refine⟨by decide,_,c (i:=2),by decide,by rw[show((2:Int)).toNat*1=2 from rfl,bZ];exact iR hb (by simp[q4]),?_⟩
 refine qC (s':=(q.1,q.2.1,gH q.2.2.1 255,q.2.2.2)) hb rfl fun h3 hb3 hu3=>?_
 exact Ip (n:=4) (by omega) hb3 fun h4 hb4 hu4=>hk h4 hb4 (hu3.tr hu4)
theorem bi{h:af}{k:af→Prop}(hk:k h):At h k:=hk
theorem U6{k0 k1:Int}{s:ByteArray}{h:af}{K:Int→af→Prop}(hk:∀h',Upd No h h'→K (TU k0 k1 s) h'):HC PG CS [.agg #[.int .u64 k0,.int .u64 k1],.string s] [.c (.int .u64)] K h:=by
 refine Rq (k0,k1) s ?_;unfold Jp ae bS;have k1':=Upd.hnew No h [.int .u64 k0,.int .u64 k1] l5;have b1:=bR h [.int .u64 k0,.int .u64 k1] l5;have z1:=hH h [.int .u64 k0,.int .u64 k1] l5;refine bi ?_;simp only[cF h];generalize hnew h [.int .u64 k0,.int .u64 k1] l5=h1 at k1' b1 z1;refine⟨k0,by rw[bZ,bf b1];rfl,k1,by rw[bZ,bf b1];rfl,k0,by rw[bZ,bf b1];rfl,k1,by rw[bZ,bf b1];rfl,?_⟩
 have k2:=Upd.hnew No h1 [.int .u64 0,.int .u64 0,.int .u64 0,.int .u64 0] jH;have b2:=bR h1 [.int .u64 0,.int .u64 0,.int .u64 0,.int .u64 0] jH;simp only[cF h1];simp only[Bd];refine bi ?_;refine⟨.inr ⟨_,rfl,fun j hj=>by rw[bZ];exact iR b2 (by simp at hj⊢;omega)⟩,?_⟩
 refine bi ?_;rw[jF _ _ 0 0 _ b2 (by simp)];have b3:=jB (o:=.cells (q4 (gH k0 8317987319222330741,gH k1 7237128888997146477,gH k0 7816392313619706465,gH k1 8387220255154660723)) jH (0,0)) b2;have k3:Upd No h _:=k1'.tr (k2.trans (M':=(· =h1.size)) (Upd.set (hnew h1 [.int .u64 0,.int .u64 0,.int .u64 0,.int .u64 0] jH) (.cells (q4 (gH k0 8317987319222330741,gH k1 7237128888997146477,gH k0 7816392313619706465,gH k1 8387220255154660723)) jH (0,0)) rfl) fun b hb=>.inr (Nat.le_of_eq hb.symm))
 refine LoopP.ghost (fun(g:Nat×Q4) (t':ByteArray) h'=>t'.size≤g.1∧h'[h1.size]? =some (.cells (q4 g.2) jH (0,0))∧Upd No h h'∧FD g.1 t' g.2=FD s.size s (gH k0 8317987319222330741,gH k1 7237128888997146477,gH k0 7816392313619706465,gH k1 8387220255154660723)) (fun g=>g.1) (s.size,_)
  ⟨aq _,b3,k3,rfl⟩ ?_
 rintro I ⟨n,q⟩ t' h' ⟨hn,hb,hu,hg⟩ hI;simp only at hn hb hg;have hsh:∀b,b=h1.size→No b∨h.size≤b:=fun b hb=>.inr (by omega)
 refine ax (fun hge=>?_) fun hlt=>?_
 ·have hge:8≤t'.size:=by omega
  cases n with
  |zero=>omega
  |succ n=>
   refine⟨by omega,Pw (by rw[qr];show min 8 _-0≤8;omega) (PD hb fun h2 hb2 hu2=>⟨by omega,?_⟩)⟩
   have e8:((8:Int)).toNat=8:=rfl;rw[e8]at hb2⊢;refine hI (n,FA (DJ (t'.extract 0 8)) q) _ _ ⟨by simp only[qr];omega,hb2,hu.trans hu2 hsh,?_⟩ (by simp only;omega);rw[←hg];simp only[FD,if_pos hge]
 ·have hlt:t'.size<8:=by omega
  have hg:(t',q)=FD s.size s (gH k0 8317987319222330741,gH k1 7237128888997146477,gH k0 7816392313619706465,gH k1 8387220255154660723):=by
   rw[←hg];cases n with
   |zero=>rfl
   |succ n=>simp only[FD,if_neg (show ¬8≤t'.size by omega)]
  have c:∀{h:af} {s:Q4} {i:Nat},h[h1.size]? =some (.cells (q4 s) jH (0,0))→aL h ⟨h1.size,0+i,none⟩=(q4 s)[i]?:=fun hb=>by rw[aP];exact bf hb
  have w:∀{h:af} {s:Q4} {i:Nat},h[h1.size]? =some (.cells (q4 s) jH (0,0))→i<4→Wr h ⟨h1.size,0+i,none⟩:=fun hb hi=>by rw[aP];exact iR hb hi
  have hsv:TU k0 k1 s=VN (FA (SK (DJ t') (VX (s.size:Int) 56)) q):=by unfold TU;rw[←hg];rfl
  rw[hsv]at hk;refine Pw (by omega) ⟨by decide,PD (m:=SK (DJ t') (VX (s.size:Int) 56)) hb fun h2 hb2 hu2=>?_⟩
  refine Us hb2 fun h4 hb4 hu4=>Ut (K:=fun n=>K n h4) hb4 ?_
  exact hk h4 ((hu.trans hu2 hsh).trans hu4 hsh)
structure Hs where
 k0:Int
 k1:Int
 mask:Int
def d9(h:Hs)(s:ByteArray):Int:=Tw (TU h.k0 h.k1 s) h.mask
theorem yy{x:Hs}{s:ByteArray}{h:af}{K:Int→af→Prop}(hk:∀h',Upd No h h'→K (d9 x s) h'):HC PG fE [.agg #[.int .u64 x.k0,.int .u64 x.k1,.int .u64 x.mask],.string s] [.c (.int .u64)] K h:=by
 refine Bu (x.k0,x.k1,x.mask) s ?_;unfold un ae;have k1':=Upd.hnew No h [.int .u64 x.k0,.int .u64 x.k1,.int .u64 x.mask] cn;have b1:=bR h [.int .u64 x.k0,.int .u64 x.k1,.int .u64 x.mask] cn;simp only[At,cF h];generalize hnew h [.int .u64 x.k0,.int .u64 x.k1,.int .u64 x.mask] cn=h1 at k1' b1;refine⟨x.k0,by rw[bZ,bZ,bf b1];rfl,x.k1,by rw[bZ,bZ,bf b1];rfl,x.mask,by rw[bZ,bf b1];rfl,?_⟩
 refine U6 fun h2 hu=>⟨by rw[bZ,bf (hu.get0 b1)];rfl,hk _ (k1'.tr hu)⟩
theorem Mj(x:Hs)(s:ByteArray):0≤d9 x s∧d9 x s<18446744073709551616:=Nu _
end Go.Proofs
namespace Go.Proofs
open Go Go.Lift
abbrev eh(x:ByteArray×ByteArray):List Value:= [.string x.1,.string x.2]
theorem gg(x:ByteArray×ByteArray):(eh x).length=2∧0<2:=⟨rfl,by omega⟩
theorem vW:∀xs:List (ByteArray×ByteArray),ce (xs.flatMap eh)=true
 | []=>rfl
 |x::xs=>by rw[aK];exact li rfl (vW xs)
theorem JT{h:af}{vb b o la ca lb cb:Nat}{cv cw:Array Value}{tv tb:TypeId}(hv:h[vb]? =some (.cells cv tv (0,0))) (hb:h[b]? =some (.cells cw tb (0,0))) (hn:vb≠b) (h0:cw.size≠0) {K:Bool→af→Prop} (hk:K false h):
  HC PG ja [.slice (some ⟨vb,0,none⟩) la ca,.slice (some ⟨b,o,none⟩) lb cb] [.c .bool] K h:=by
 refine⟨fun w hw=>.inr ⟨.bool false,w,?_,Tame.refl w,false,rfl,hw▸hk⟩⟩
 subst hw;rw[sB];have:=Lib.run_overlaps_apart (P:=PG) w cj xn al (by kernel_rfl) (bW PG al) (ru (by kernel_rfl)) ⟨vb,0,none⟩ ⟨b,o,none⟩ la ca lb cb hn tv tb cv.size cw.size
  (by simp[World.shape?,hv]) (by simp[World.shape?,hb]) h0 (by simp[World.frozen?,hv]) (by simp[World.frozen?,hv])
 rw[show([Value.slice (some ⟨vb,0,none⟩) la ca,Value.slice (some ⟨b,o,none⟩) lb cb]:List Value).toArray= #[.slice (some ⟨vb,0,none⟩) la ca,.slice (some ⟨b,o,none⟩) lb cb]from rfl,this]
 rfl
set_option maxRecDepth 4000 in
theorem Om{M:Nat→Prop}{h:af}{s:SliceV}{xs:List (ByteArray×ByteArray)}(hs:OwnS eh 2 al M h s xs){k:Nat}(hkl:k≤xs.length)(hn:(xs.length+1)*32≤140737488355328){x:ByteArray×ByteArray}{vb:Nat}(hv:h[vb]? =some (.cells (eh x).toArray al (0,0)))
  (hvM:¬M vb) (hM:∀b,h.size≤b→M b) {K:SliceV→af→Prop} (hK:∀s' h',OwnS eh 2 al M h' s' (xs.take k++x::xs.drop k)→Upd M h h'→K s' h'):
  HC PG cP [.slice s.a s.len s.cap,.int .i64 k,.slice (some ⟨vb,0,none⟩) 1 1] [.c .slice] K h:=by
 refine nJ s k ⟨some ⟨vb,0,none⟩,1,1⟩ ?_;unfold iK;have hlen:=hs.len;have hcap:=hs.cap;have hxr:SRow h (some ⟨vb,0,none⟩) (1*2) (eh x):=⟨rfl,.inr ⟨_,rfl,pL hv fun i v hi=>by simpa using hi⟩⟩
 refine⟨by omega,ak.2 ?_⟩;refine CondP.intro (fun e=>?_) fun e=>?_
 ·have e:k=xs.length:=by have:=of_decide_eq_true (by simpa using e:decide ((k:Int)=(s.len:Int))=true);omega
  subst e;refine⟨_,hxr,AppP.own (ys:= [x]) hs rfl (by simp) rfl rfl (by omega) (by simp;omega) (hM _ (aq _)) fun s' h' ho hu=>hK s' h' ?_ hu⟩
  rw[bV,List.drop_length];exact ho
 have hlt:k<xs.length:=by
  rcases bX k xs.length with h|h
  ·exact h
  ·have:((k:Int)==(s.len:Int))=true:=by rw[beq_iff_eq];omega
   rw[this]at e;cases e
 rcases hs.blk with h0|⟨b,rest,ha,hb,hc,hr⟩
 ·omega
 have hA:((xs.take k).flatMap eh).length=k*2:=by rw[lw gg,aI,bo hkl]
 have hB:((xs.drop k).flatMap eh).length=(xs.length-k)*2:=by rw[lw gg,aN]
 have hbv:vb≠b:=fun e=>hvM (e▸hb)
 rw[zV (f:=eh) xs k]at hc;have hins:(xs.take k++x::xs.drop k).flatMap eh=(xs.take k).flatMap eh++(eh x++(xs.drop k).flatMap eh):=by rw[bI,aK]
 have hone:=vW (xs.drop k);have hxl:(eh x).length=2:=rfl;have hx1:ce (eh x)=true:=rfl;generalize hAe:(xs.take k).flatMap eh=A at hA hc hins;generalize hBe:(xs.drop k).flatMap eh=B at hB hc hins hone;generalize eh x=X at hxr hxl hv hins hx1;rw[ha];have w1:IntKind.wrap .i64 ((xs.length:Int)+((1:Nat):Int))=((xs.length+1:Nat):Int):=by rw[cS (by omega)];omega
 have w2:IntKind.wrap .i64 ((k:Int)+((1:Nat):Int))=((k+1:Nat):Int):=by rw[cS (by omega)];omega
 have w3:IntKind.wrap .i64 (((xs.length+1:Nat):Int)-(k:Int))=((xs.length+1-k:Nat):Int):=by rw[cS (by omega)];omega
 simp only[w1,w2,w3,aS,hlen];refine ax (fun hgt=>?_) fun hle=>?_
 ·
  have hcl:s.cap=xs.length:=by omega
  refine Join.plain ⟨by omega,⟨by omega,by omega,by omega,by omega⟩,fun hin=>?_,fun hout=>?_⟩
  ·omega
  ·refine⟨A,_,?_,rfl,by omega,Go.growslice_fits hout (by omega),fun nc hnc=>?_⟩
   ·rw[sub_zero]
    exact l7 hc (by rw[hA];omega) (by simp only[cy,dL];rw[ao,←hA,fH (aq _),bV])
   ·simp only[aS]at hnc⊢
    have kn:=Upd.hnew No h (A++dD (xs.length+1-k) [.string (⟨#[]⟩:ByteArray),.string (⟨#[]⟩:ByteArray)]++dD (nc-(k-0+(xs.length+1-k))) [.string (⟨#[]⟩:ByteArray),.string (⟨#[]⟩:ByteArray)]) al;have bn:=bR h (A++dD (xs.length+1-k) [.string (⟨#[]⟩:ByteArray),.string (⟨#[]⟩:ByteArray)]++dD (nc-(k-0+(xs.length+1-k))) [.string (⟨#[]⟩:ByteArray),.string (⟨#[]⟩:ByteArray)]) al
    have hz1:(dD (xs.length+1-k) [.string (⟨#[]⟩:ByteArray),.string (⟨#[]⟩:ByteArray)]).length=(xs.length+1-k)*2:=mJ _ _;have hz2:(dD (nc-(k-0+(xs.length+1-k))) [.string (⟨#[]⟩:ByteArray),.string (⟨#[]⟩:ByteArray)]).length=(nc-(k-0+(xs.length+1-k)))*2:=mJ _ _;have hncl:k-0+(xs.length+1-k)=xs.length+1:=by omega
    rw[cF];have hsz:h.size≠vb:=fun e=>by have:=bF hv;omega
    have hszb:h.size≠b:=fun e=>by have:=bF hc;omega
    have hbc:=kn.get0 hc;have hvc:=kn.get0 hv;generalize hnew h _ al=h9 at kn bn hbc hvc;rw[hncl]at hnc hz2⊢;have m1:dM 1 (xs.length+1-k)=1:=bo (by omega);have m2:dM (xs.length-k) (xs.length+1-(k+1))=xs.length-k:=bo (by omega);rw[m1];have xr9:SRow h9 (some ⟨vb,0,none⟩) (1*2) X:=l7 hvc (by rw[hxl]) (by rw[cy,aW];rw[hxl];omega)
    refine⟨by omega,?_⟩;rw[j6 (by omega)];refine lS xr9 hx1 bn (by simp only[ac,hA,hz1];omega) fun h11 hb11 hu11=>⟨by omega,?_⟩
    simp only[Bd];rw[j6 (by omega),j6 (by omega),m2];refine⟨by omega,?_⟩;have hbc11:=hu11.get hbc (fun e=>hszb e.symm)
    have br:SRow h11 (some ⟨b,0+k*2,none⟩) ((xs.length-k)*2) B:=l7 hbc11 hB (by
     rw[aP,ao,←hA,fS,←hB,gv])
    refine lS br hone hb11 ?_ fun h16 hb16 hu16=>?_
    ·simp only[ac,aI,aN,hA,hz1,hxl];omega
    ·refine hK _ _ ⟨by simp;omega,gg,hnc,.inr ⟨h.size,dD (nc-(xs.length+1)) [.string (⟨#[]⟩:ByteArray),.string (⟨#[]⟩:ByteArray)],rfl,hM _ (aq _),?_,by rw[mJ];rfl⟩⟩ ((kn.wide.trans (M':=(· =h.size)) hu11 fun b hb=>.inl (hb▸hM _ (aq _))).trans (M':=(· =h.size)) hu16 fun b hb=>.inl (hb▸hM _ (aq _)))
     rw[hb16,hins];have:=J9 (A:=A) (X:=X) (B:=B) (Z1:=dD (xs.length+1-k) [.string (⟨#[]⟩:ByteArray),.string (⟨#[]⟩:ByteArray)]) (Z2:=dD (nc-(xs.length+1)) [.string (⟨#[]⟩:ByteArray),.string (⟨#[]⟩:ByteArray)]) (r:=(xs.length-k)*2) hA hxl (by rw[hz1,←gR];congr 1;omega);rw[hncl,←this];simp only[aP,gR,rJ]
 ·have hcl:xs.length+1≤s.cap:=by omega
  refine⟨by omega,?_⟩;simp only[Bd,dL];rw[sub_zero,j6 (show s.cap≠k+1 by omega),j6 (show s.cap≠k by omega)]
  refine⟨by omega,?_⟩;have hrl:2≤rest.length:=by rw[hr];exact qj _ (by omega)
  refine JT hv hc hbv (by rw[dB,ac];omega) ?_;refine au.2 ⟨by omega,by omega,?_⟩
  have m1:dM 1 (xs.length+1-k)=1:=bo (by omega);have m2:dM (xs.length+1-k) (xs.length+1-(k+1))=xs.length-k:=by
   rw[show xs.length+1-(k+1)=xs.length-k by omega];exact gd (by omega)
  rw[m2];have br:SRow h (some ⟨b,0+k*2,none⟩) ((xs.length-k)*2) B:=l7 hc hB (by
   rw[aP,ao,←hA,fS,←hB,gv])
  refine lS br hone hc (by simp only[ac,hA,hB];omega) fun h1 hb1 hu1=>⟨by omega,?_⟩
  rw[m1];have xr1:SRow h1 (some ⟨vb,0,none⟩) (1*2) X:=l7 (hu1.get hv hbv) (by rw[hxl]) (by rw[cy,aW];rw[hxl];omega);refine lS xr1 hx1 hb1 (by simp only[ac,aI,aN,hA,hB];omega) fun h2 hb2 hu2=>?_
  refine hK _ _ ⟨by simp;omega,gg,hcl,.inr ⟨b,rest.drop 2,rfl,hb,?_,?_⟩⟩ ((hu1.mono fun _ e=>.inl (e▸hb)).tr (hu2.mono fun _ e=>.inl (e▸hb)))
  ·rw[hb2,hins]
   have:=Oo (A:=A) (X:=X) (B:=B) (R:=rest) (q:=2) (r:=(xs.length-k)*2) hA hB hrl;rw[←this];simp only[aP,gR,rJ]
  ·rw[aN,hr]
   simp only;rw[hlen];omega
abbrev rp(x:Option Addr):List Value:= [.pointer x]
theorem rQ(x:Option Addr):(rp x).length=1∧0<1:=⟨rfl,by omega⟩
theorem E6:∀xs:List (Option Addr),ce (xs.flatMap rp)=true
 | []=>rfl
 |x::xs=>by rw[aK];exact li rfl (E6 xs)
theorem JU{h:af}{vb b o la ca lb cb:Nat}{cv cw:Array Value}{tv tb:TypeId}(hv:h[vb]? =some (.cells cv tv (0,0))) (hb:h[b]? =some (.cells cw tb (0,0))) (hn:vb≠b) (h0:cw.size≠0) {K:Bool→af→Prop} (hk:K false h):
  HC PG iy [.slice (some ⟨vb,0,none⟩) la ca,.slice (some ⟨b,o,none⟩) lb cb] [.c .bool] K h:=by
 refine⟨fun w hw=>.inr ⟨.bool false,w,?_,Tame.refl w,false,rfl,hw▸hk⟩⟩
 subst hw;rw[rE];have:=Lib.run_overlaps_apart (P:=PG) w rN xn bO (by kernel_rfl) (bW PG bO) (ru (by kernel_rfl)) ⟨vb,0,none⟩ ⟨b,o,none⟩ la ca lb cb hn tv tb cv.size cw.size
  (by simp[World.shape?,hv]) (by simp[World.shape?,hb]) h0 (by simp[World.frozen?,hv]) (by simp[World.frozen?,hv])
 rw[show([Value.slice (some ⟨vb,0,none⟩) la ca,Value.slice (some ⟨b,o,none⟩) lb cb]:List Value).toArray= #[.slice (some ⟨vb,0,none⟩) la ca,.slice (some ⟨b,o,none⟩) lb cb]from rfl,this]
 rfl
set_option maxRecDepth 4000 in
theorem On{M:Nat→Prop}{h:af}{s:SliceV}{xs:List (Option Addr)}(hs:OwnS rp 1 bO M h s xs){k:Nat}(hkl:k≤xs.length)(hn:(xs.length+1)*8≤140737488355328){x:Option Addr}{vb:Nat}(hv:h[vb]? =some (.cells (rp x).toArray bO (0,0)))
  (hvM:¬M vb) (hM:∀b,h.size≤b→M b) {K:SliceV→af→Prop} (hK:∀s' h',OwnS rp 1 bO M h' s' (xs.take k++x::xs.drop k)→Upd M h h'→K s' h'):
  HC PG cG [.slice s.a s.len s.cap,.int .i64 k,.slice (some ⟨vb,0,none⟩) 1 1] [.c .slice] K h:=by
 refine lV s k ⟨some ⟨vb,0,none⟩,1,1⟩ ?_;unfold gN;have hlen:=hs.len;have hcap:=hs.cap;have hxr:SRow h (some ⟨vb,0,none⟩) (1*1) (rp x):=⟨rfl,.inr ⟨_,rfl,pL hv fun i v hi=>by simpa using hi⟩⟩
 refine⟨by omega,ak.2 ?_⟩;refine CondP.intro (fun e=>?_) fun e=>?_
 ·have e:k=xs.length:=by have:=of_decide_eq_true (by simpa using e:decide ((k:Int)=(s.len:Int))=true);omega
  subst e;refine⟨_,hxr,AppP.own (ys:= [x]) hs rfl (by simp) rfl rfl (by omega) (by simp;omega) (hM _ (aq _)) fun s' h' ho hu=>hK s' h' ?_ hu⟩
  rw[bV,List.drop_length];exact ho
 have hlt:k<xs.length:=by
  rcases bX k xs.length with h|h
  ·exact h
  ·have:((k:Int)==(s.len:Int))=true:=by rw[beq_iff_eq];omega
   rw[this]at e;cases e
 rcases hs.blk with h0|⟨b,rest,ha,hb,hc,hr⟩
 ·omega
 have hA:((xs.take k).flatMap rp).length=k*1:=by rw[lw rQ,aI,bo hkl]
 have hB:((xs.drop k).flatMap rp).length=(xs.length-k)*1:=by rw[lw rQ,aN]
 have hbv:vb≠b:=fun e=>hvM (e▸hb)
 rw[zV (f:=rp) xs k]at hc;have hins:(xs.take k++x::xs.drop k).flatMap rp=(xs.take k).flatMap rp++(rp x++(xs.drop k).flatMap rp):=by rw[bI,aK]
 have hone:=E6 (xs.drop k);have hxl:(rp x).length=1:=rfl;have hx1:ce (rp x)=true:=rfl;generalize hAe:(xs.take k).flatMap rp=A at hA hc hins;generalize hBe:(xs.drop k).flatMap rp=B at hB hc hins hone;generalize rp x=X at hxr hxl hv hins hx1;rw[ha];have w1:IntKind.wrap .i64 ((xs.length:Int)+((1:Nat):Int))=((xs.length+1:Nat):Int):=by rw[cS (by omega)];omega
 have w2:IntKind.wrap .i64 ((k:Int)+((1:Nat):Int))=((k+1:Nat):Int):=by rw[cS (by omega)];omega
 have w3:IntKind.wrap .i64 (((xs.length+1:Nat):Int)-(k:Int))=((xs.length+1-k:Nat):Int):=by rw[cS (by omega)];omega
 simp only[w1,w2,w3,aS,hlen];refine ax (fun hgt=>?_) fun hle=>?_
 ·
  have hcl:s.cap=xs.length:=by omega
  refine Join.plain ⟨by omega,⟨by omega,by omega,by omega,by omega⟩,fun hin=>?_,fun hout=>?_⟩
  ·omega
  ·refine⟨A,_,?_,rfl,by omega,Go.growslice_fits hout (by omega),fun nc hnc=>?_⟩
   ·rw[sub_zero]
    exact l7 hc (by rw[hA];omega) (by simp only[cy,dL];rw[ao,←hA,fH (aq _),bV])
   ·simp only[aS]at hnc⊢
    have kn:=Upd.hnew No h (A++dD (xs.length+1-k) [.pointer none]++dD (nc-(k-0+(xs.length+1-k))) [.pointer none]) bO;have bn:=bR h (A++dD (xs.length+1-k) [.pointer none]++dD (nc-(k-0+(xs.length+1-k))) [.pointer none]) bO;have hz1:(dD (xs.length+1-k) [.pointer none]).length=(xs.length+1-k)*1:=mJ _ _;have hz2:(dD (nc-(k-0+(xs.length+1-k))) [.pointer none]).length=(nc-(k-0+(xs.length+1-k)))*1:=mJ _ _
    have hncl:k-0+(xs.length+1-k)=xs.length+1:=by omega
    rw[cF];have hsz:h.size≠vb:=fun e=>by have:=bF hv;omega
    have hszb:h.size≠b:=fun e=>by have:=bF hc;omega
    have hbc:=kn.get0 hc;have hvc:=kn.get0 hv;generalize hnew h _ bO=h9 at kn bn hbc hvc;rw[hncl]at hnc hz2⊢;have m1:dM 1 (xs.length+1-k)=1:=bo (by omega);have m2:dM (xs.length-k) (xs.length+1-(k+1))=xs.length-k:=bo (by omega);rw[m1];have xr9:SRow h9 (some ⟨vb,0,none⟩) (1*1) X:=l7 hvc (by rw[hxl]) (by rw[cy,aW];rw[hxl];omega)
    refine⟨by omega,?_⟩;rw[j6 (by omega)];refine lS xr9 hx1 bn (by simp only[ac,hA,hz1];omega) fun h11 hb11 hu11=>⟨by omega,?_⟩
    simp only[Bd];rw[j6 (by omega),j6 (by omega),m2];refine⟨by omega,?_⟩;have hbc11:=hu11.get hbc (fun e=>hszb e.symm)
    have br:SRow h11 (some ⟨b,0+k*1,none⟩) ((xs.length-k)*1) B:=l7 hbc11 hB (by
     rw[aP,ao,←hA,fS,←hB,gv])
    refine lS br hone hb11 ?_ fun h16 hb16 hu16=>?_
    ·simp only[ac,aI,aN,hA,hz1,hxl];omega
    ·refine hK _ _ ⟨by simp;omega,rQ,hnc,.inr ⟨h.size,dD (nc-(xs.length+1)) [.pointer none],rfl,hM _ (aq _),?_,by rw[mJ];rfl⟩⟩ ((kn.wide.trans (M':=(· =h.size)) hu11 fun b hb=>.inl (hb▸hM _ (aq _))).trans (M':=(· =h.size)) hu16 fun b hb=>.inl (hb▸hM _ (aq _)))
     rw[hb16,hins];have:=J9 (A:=A) (X:=X) (B:=B) (Z1:=dD (xs.length+1-k) [.pointer none]) (Z2:=dD (nc-(xs.length+1)) [.pointer none]) (r:=(xs.length-k)*1) hA hxl (by rw[hz1,←gR];congr 1;omega);rw[hncl,←this];simp only[aP,gR,rJ]
 ·have hcl:xs.length+1≤s.cap:=by omega
  refine⟨by omega,?_⟩;simp only[Bd,dL];rw[sub_zero,j6 (show s.cap≠k+1 by omega),j6 (show s.cap≠k by omega)]
  refine⟨by omega,?_⟩;have hrl:1≤rest.length:=by rw[hr];exact qj _ (by omega)
  refine JU hv hc hbv (by rw[dB,ac];omega) ?_;refine au.2 ⟨by omega,by omega,?_⟩
  have m1:dM 1 (xs.length+1-k)=1:=bo (by omega);have m2:dM (xs.length+1-k) (xs.length+1-(k+1))=xs.length-k:=by
   rw[show xs.length+1-(k+1)=xs.length-k by omega];exact gd (by omega)
  rw[m2];have br:SRow h (some ⟨b,0+k*1,none⟩) ((xs.length-k)*1) B:=l7 hc hB (by
   rw[aP,ao,←hA,fS,←hB,gv])
  refine lS br hone hc (by simp only[ac,hA,hB];omega) fun h1 hb1 hu1=>⟨by omega,?_⟩
  rw[m1];have xr1:SRow h1 (some ⟨vb,0,none⟩) (1*1) X:=l7 (hu1.get hv hbv) (by rw[hxl]) (by rw[cy,aW];rw[hxl];omega);refine lS xr1 hx1 hb1 (by simp only[ac,aI,aN,hA,hB];omega) fun h2 hb2 hu2=>?_
  refine hK _ _ ⟨by simp;omega,rQ,hcl,.inr ⟨b,rest.drop 1,rfl,hb,?_,?_⟩⟩ ((hu1.mono fun _ e=>.inl (e▸hb)).tr (hu2.mono fun _ e=>.inl (e▸hb)))
  ·rw[hb2,hins]
   have:=Oo (A:=A) (X:=X) (B:=B) (R:=rest) (q:=1) (r:=(xs.length-k)*1) hA hB hrl;rw[←this];simp only[aP,gR,rJ]
  ·rw[aN,hr]
   simp only;rw[hlen];omega
abbrev pC(x:Option Addr):List Value:= [.pointer x]
theorem mO(x:Option Addr):(pC x).length=1∧0<1:=⟨rfl,by omega⟩
theorem E5:∀xs:List (Option Addr),ce (xs.flatMap pC)=true
 | []=>rfl
 |x::xs=>by rw[aK];exact li rfl (E5 xs)
theorem JS{h:af}{vb b o la ca lb cb:Nat}{cv cw:Array Value}{tv tb:TypeId}(hv:h[vb]? =some (.cells cv tv (0,0))) (hb:h[b]? =some (.cells cw tb (0,0))) (hn:vb≠b) (h0:cw.size≠0) {K:Bool→af→Prop} (hk:K false h):
  HC PG ia [.slice (some ⟨vb,0,none⟩) la ca,.slice (some ⟨b,o,none⟩) lb cb] [.c .bool] K h:=by
 refine⟨fun w hw=>.inr ⟨.bool false,w,?_,Tame.refl w,false,rfl,hw▸hk⟩⟩
 subst hw;rw[qO];have:=Lib.run_overlaps_apart (P:=PG) w qz xn aR (by kernel_rfl) (bW PG aR) (ru (by kernel_rfl)) ⟨vb,0,none⟩ ⟨b,o,none⟩ la ca lb cb hn tv tb cv.size cw.size
  (by simp[World.shape?,hv]) (by simp[World.shape?,hb]) h0 (by simp[World.frozen?,hv]) (by simp[World.frozen?,hv])
 rw[show([Value.slice (some ⟨vb,0,none⟩) la ca,Value.slice (some ⟨b,o,none⟩) lb cb]:List Value).toArray= #[.slice (some ⟨vb,0,none⟩) la ca,.slice (some ⟨b,o,none⟩) lb cb]from rfl,this]
 rfl
set_option maxRecDepth 4000 in
theorem Ol{M:Nat→Prop}{h:af}{s:SliceV}{xs:List (Option Addr)}(hs:OwnS pC 1 aR M h s xs){k:Nat}(hkl:k≤xs.length)(hn:(xs.length+1)*8≤140737488355328){x:Option Addr}{vb:Nat}(hv:h[vb]? =some (.cells (pC x).toArray aR (0,0)))
  (hvM:¬M vb) (hM:∀b,h.size≤b→M b) {K:SliceV→af→Prop} (hK:∀s' h',OwnS pC 1 aR M h' s' (xs.take k++x::xs.drop k)→Upd M h h'→K s' h'):
  HC PG dY [.slice s.a s.len s.cap,.int .i64 k,.slice (some ⟨vb,0,none⟩) 1 1] [.c .slice] K h:=by
 refine kQ s k ⟨some ⟨vb,0,none⟩,1,1⟩ ?_;unfold gi;have hlen:=hs.len;have hcap:=hs.cap;have hxr:SRow h (some ⟨vb,0,none⟩) (1*1) (pC x):=⟨rfl,.inr ⟨_,rfl,pL hv fun i v hi=>by simpa using hi⟩⟩
 refine⟨by omega,ak.2 ?_⟩;refine CondP.intro (fun e=>?_) fun e=>?_
 ·have e:k=xs.length:=by have:=of_decide_eq_true (by simpa using e:decide ((k:Int)=(s.len:Int))=true);omega
  subst e;refine⟨_,hxr,AppP.own (ys:= [x]) hs rfl (by simp) rfl rfl (by omega) (by simp;omega) (hM _ (aq _)) fun s' h' ho hu=>hK s' h' ?_ hu⟩
  rw[bV,List.drop_length];exact ho
 have hlt:k<xs.length:=by
  rcases bX k xs.length with h|h
  ·exact h
  ·have:((k:Int)==(s.len:Int))=true:=by rw[beq_iff_eq];omega
   rw[this]at e;cases e
 rcases hs.blk with h0|⟨b,rest,ha,hb,hc,hr⟩
 ·omega
 have hA:((xs.take k).flatMap pC).length=k*1:=by rw[lw mO,aI,bo hkl]
 have hB:((xs.drop k).flatMap pC).length=(xs.length-k)*1:=by rw[lw mO,aN]
 have hbv:vb≠b:=fun e=>hvM (e▸hb)
 rw[zV (f:=pC) xs k]at hc;have hins:(xs.take k++x::xs.drop k).flatMap pC=(xs.take k).flatMap pC++(pC x++(xs.drop k).flatMap pC):=by rw[bI,aK]
 have hone:=E5 (xs.drop k);have hxl:(pC x).length=1:=rfl;have hx1:ce (pC x)=true:=rfl;generalize hAe:(xs.take k).flatMap pC=A at hA hc hins;generalize hBe:(xs.drop k).flatMap pC=B at hB hc hins hone;generalize pC x=X at hxr hxl hv hins hx1;rw[ha];have w1:IntKind.wrap .i64 ((xs.length:Int)+((1:Nat):Int))=((xs.length+1:Nat):Int):=by rw[cS (by omega)];omega
 have w2:IntKind.wrap .i64 ((k:Int)+((1:Nat):Int))=((k+1:Nat):Int):=by rw[cS (by omega)];omega
 have w3:IntKind.wrap .i64 (((xs.length+1:Nat):Int)-(k:Int))=((xs.length+1-k:Nat):Int):=by rw[cS (by omega)];omega
 simp only[w1,w2,w3,aS,hlen];refine ax (fun hgt=>?_) fun hle=>?_
 ·
  have hcl:s.cap=xs.length:=by omega
  refine Join.plain ⟨by omega,⟨by omega,by omega,by omega,by omega⟩,fun hin=>?_,fun hout=>?_⟩
  ·omega
  ·refine⟨A,_,?_,rfl,by omega,Go.growslice_fits hout (by omega),fun nc hnc=>?_⟩
   ·rw[sub_zero]
    exact l7 hc (by rw[hA];omega) (by simp only[cy,dL];rw[ao,←hA,fH (aq _),bV])
   ·simp only[aS]at hnc⊢
    have kn:=Upd.hnew No h (A++dD (xs.length+1-k) [.pointer none]++dD (nc-(k-0+(xs.length+1-k))) [.pointer none]) aR;have bn:=bR h (A++dD (xs.length+1-k) [.pointer none]++dD (nc-(k-0+(xs.length+1-k))) [.pointer none]) aR;have hz1:(dD (xs.length+1-k) [.pointer none]).length=(xs.length+1-k)*1:=mJ _ _;have hz2:(dD (nc-(k-0+(xs.length+1-k))) [.pointer none]).length=(nc-(k-0+(xs.length+1-k)))*1:=mJ _ _
    have hncl:k-0+(xs.length+1-k)=xs.length+1:=by omega
    rw[cF];have hsz:h.size≠vb:=fun e=>by have:=bF hv;omega
    have hszb:h.size≠b:=fun e=>by have:=bF hc;omega
    have hbc:=kn.get0 hc;have hvc:=kn.get0 hv;generalize hnew h _ aR=h9 at kn bn hbc hvc;rw[hncl]at hnc hz2⊢;have m1:dM 1 (xs.length+1-k)=1:=bo (by omega);have m2:dM (xs.length-k) (xs.length+1-(k+1))=xs.length-k:=bo (by omega);rw[m1];have xr9:SRow h9 (some ⟨vb,0,none⟩) (1*1) X:=l7 hvc (by rw[hxl]) (by rw[cy,aW];rw[hxl];omega)
    refine⟨by omega,?_⟩;rw[j6 (by omega)];refine lS xr9 hx1 bn (by simp only[ac,hA,hz1];omega) fun h11 hb11 hu11=>⟨by omega,?_⟩
    simp only[Bd];rw[j6 (by omega),j6 (by omega),m2];refine⟨by omega,?_⟩;have hbc11:=hu11.get hbc (fun e=>hszb e.symm)
    have br:SRow h11 (some ⟨b,0+k*1,none⟩) ((xs.length-k)*1) B:=l7 hbc11 hB (by
     rw[aP,ao,←hA,fS,←hB,gv])
    refine lS br hone hb11 ?_ fun h16 hb16 hu16=>?_
    ·simp only[ac,aI,aN,hA,hz1,hxl];omega
    ·refine hK _ _ ⟨by simp;omega,mO,hnc,.inr ⟨h.size,dD (nc-(xs.length+1)) [.pointer none],rfl,hM _ (aq _),?_,by rw[mJ];rfl⟩⟩ ((kn.wide.trans (M':=(· =h.size)) hu11 fun b hb=>.inl (hb▸hM _ (aq _))).trans (M':=(· =h.size)) hu16 fun b hb=>.inl (hb▸hM _ (aq _)))
     rw[hb16,hins];have:=J9 (A:=A) (X:=X) (B:=B) (Z1:=dD (xs.length+1-k) [.pointer none]) (Z2:=dD (nc-(xs.length+1)) [.pointer none]) (r:=(xs.length-k)*1) hA hxl (by rw[hz1,←gR];congr 1;omega);rw[hncl,←this];simp only[aP,gR,rJ]
 ·have hcl:xs.length+1≤s.cap:=by omega
  refine⟨by omega,?_⟩;simp only[Bd,dL];rw[sub_zero,j6 (show s.cap≠k+1 by omega),j6 (show s.cap≠k by omega)]
  refine⟨by omega,?_⟩;have hrl:1≤rest.length:=by rw[hr];exact qj _ (by omega)
  refine JS hv hc hbv (by rw[dB,ac];omega) ?_;refine au.2 ⟨by omega,by omega,?_⟩
  have m1:dM 1 (xs.length+1-k)=1:=bo (by omega);have m2:dM (xs.length+1-k) (xs.length+1-(k+1))=xs.length-k:=by
   rw[show xs.length+1-(k+1)=xs.length-k by omega];exact gd (by omega)
  rw[m2];have br:SRow h (some ⟨b,0+k*1,none⟩) ((xs.length-k)*1) B:=l7 hc hB (by
   rw[aP,ao,←hA,fS,←hB,gv])
  refine lS br hone hc (by simp only[ac,hA,hB];omega) fun h1 hb1 hu1=>⟨by omega,?_⟩
  rw[m1];have xr1:SRow h1 (some ⟨vb,0,none⟩) (1*1) X:=l7 (hu1.get hv hbv) (by rw[hxl]) (by rw[cy,aW];rw[hxl];omega);refine lS xr1 hx1 hb1 (by simp only[ac,aI,aN,hA,hB];omega) fun h2 hb2 hu2=>?_
  refine hK _ _ ⟨by simp;omega,mO,hcl,.inr ⟨b,rest.drop 1,rfl,hb,?_,?_⟩⟩ ((hu1.mono fun _ e=>.inl (e▸hb)).tr (hu2.mono fun _ e=>.inl (e▸hb)))
  ·rw[hb2,hins]
   have:=Oo (A:=A) (X:=X) (B:=B) (R:=rest) (q:=1) (r:=(xs.length-k)*1) hA hB hrl;rw[←this];simp only[aP,gR,rJ]
  ·rw[aN,hr]
   simp only;rw[hlen];omega
end Go.Proofs
namespace Go.Proofs
open Go Go.Lift
theorem vo{W:Nat→Prop}{h:af}{s:SliceV}{xs:List (ByteArray×ByteArray)}(h1:Sl eh 2 W h s xs)(hn:xs.length*32≤140737488355328){K:SliceV→af→Prop}
  (hk:∀s' h',OwnS eh 2 al (fun b=>h.size≤b) h' s' xs→Upd No h h'→K s' h'):HC PG cC [.slice s.a s.len s.cap] [.c .slice] K h:=by
 refine oc s ?_;unfold iY;refine CondP.intro (fun he=>?_) (fun hne=>?_)
 ·have he:s.a=none:=by simpa using he
  have hx:xs= []:=by
   by_cases hx:xs= []
   ·exact hx
   ·obtain⟨a,ha,_⟩:=h1.row hx
    rw[he]at ha;cases ha
  subst hx;exact hk _ _ (OwnS.nil gg) (Upd.refl _ _)
 ·have h2:=h1.upd (Upd.hnew No h [] al) (fun _ h=>h.elim)
  refine⟨_,h2.srow,?_⟩;refine AppP.own (f:=eh) (M:=fun b=>h.size≤b) (xs:= []) (ys:=xs) ⟨rfl,gg,aq _,.inl rfl⟩ h1.len rfl (vW xs) rfl (by omega) (by simpa using hn) (by rw[hH];omega) fun s' h' ho hu=>?_
  exact hk _ _ ho ((Upd.hnew No h [] al).trans hu fun b hb=>.inr hb)
theorem OE{M:Nat→Prop}{h:af}{s:SliceV}{xs:List (ByteArray×ByteArray)}(hs:OwnS eh 2 al M h s xs){k:Nat}(hkl:k<xs.length)(hn:xs.length≤4398046511104)
  {K:SliceV→af→Prop}(hK:∀s' h',OwnS eh 2 al M h' s' (xs.take k++xs.drop (k+1))→Upd M h h'→K s' h'):
  HC PG fi [.slice s.a s.len s.cap,.int .i64 k,.int .i64 ((k+1:Nat):Int)] [.c .slice] K h:=by
 refine nK s k ((k+1:Nat):Int) ?_;unfold iM;have hlen:=hs.len;have hcap:=hs.cap;rcases hs.blk with h0|⟨b,rest,ha,hb,hc,hr⟩
 ·omega
 have hA:((xs.take k).flatMap eh).length=k*2:=by rw[lw gg,aI,bo (by omega)]
 have hB:((xs.drop (k+1)).flatMap eh).length=(xs.length-(k+1))*2:=by rw[lw gg,aN]
 have e1:xs.flatMap eh=(xs.take k).flatMap eh++(eh xs[k]++(xs.drop (k+1)).flatMap eh):=by
  rw[←aK,←gY hkl];exact zV xs k
 rw[e1]at hc;have hone:=vW (xs.drop (k+1));have hins:(xs.take k++xs.drop (k+1)).flatMap eh=(xs.take k).flatMap eh++(xs.drop (k+1)).flatMap eh:=bI;have hX:(eh xs[k]).length=2:=rfl;generalize (xs.take k).flatMap eh=A at hA hc hins;generalize (xs.drop (k+1)).flatMap eh=B at hB hc hone hins;generalize eh xs[k]=X at hX hc;rw[ha];simp only[hlen,aS];refine⟨by omega,by omega,by omega,CondP.intro (fun e=>?_) fun _=>?_⟩
 ·have:(k:Int)=((k+1:Nat):Int):=by simpa using e
  omega
 refine Join.plain ⟨by omega,by omega,B,?_,?_⟩
 ·by_cases hlast:xs.length=k+1
  ·exact⟨hB,.inl (av.1 (by rw[hB,hlast,dk,wQ]))⟩
  rw[j6 (by omega)];refine l7 hc hB ?_;have:(A++X).length=0+(k+1)*2:=by rw[ac];omega
  rw[show A++(X++B)++rest=(A++X)++(B++rest) by simp only[ao],cp this,cL hB]
 ·rw[sub_zero]
  refine OS hc (by simp only[ac];omega) (by omega) hone fun h1 hb1 hu1=>?_
  have hr':rest.length=(s.cap-xs.length)*2:=by rw[hr,hlen]
  refine⟨by dsimp only;omega,by dsimp only;omega,?_⟩
  simp only[Bd];rw[j6 (by omega)];have en:xs.length-(k-0+(xs.length-(k+1)))=1:=by omega
  have hd1:(A++(X++B)++rest).drop ((k-0)*2+B.length)=(X++B).drop B.length++rest:=by
   rw[ao,←dC,cp (show A.length=(k-0)*2 by rw[hA,dL]),fI (by rw[ac];omega)]
  have ht1:(A++(X++B)++rest).take ((k-0)*2)=A:=by rw[ao,cL (show A.length=(k-0)*2 by rw[hA,dL])]
  rw[hd1,ht1]at hb1;have hdl:((X++B).drop B.length).length=2:=by rw[aN,ac];omega
  generalize (X++B).drop B.length=D at hdl hb1;rw[en];have hz:(dD 1 [.string (⟨#[]⟩:ByteArray),.string (⟨#[]⟩:ByteArray)]).length=2:=rfl;have hAB:(A++B).length=0+(k-0+(xs.length-(k+1)))*2:=by rw[ac,hA,hB];omega
  refine JP hb1 (by simp only[ac]at hAB⊢;omega) fun h2 hb2 hu2=>?_
  rw[cL hAB,←dC,cp hAB]at hb2;refine hK _ _ ⟨by simp;omega,gg,by simp only;omega,.inr ⟨b,dD 1 [.string (⟨#[]⟩:ByteArray),.string (⟨#[]⟩:ByteArray)]++(D++rest).drop (dD 1 [.string (⟨#[]⟩:ByteArray),.string (⟨#[]⟩:ByteArray)]).length,rfl,hb,?_,?_⟩⟩ ((hu1.mono fun _ e=>.inl (e▸hb)).tr (hu2.mono fun _ e=>.inl (e▸hb)))
  ·rw[hb2,hins];simp only[ao]
  ·simp only[ac,aN,hz,hdl,hr']
   omega
theorem CX{W:Nat→Prop}{h:af}{s:SliceV}{xs:List (Option Addr)}(h1:Sl rp 1 W h s xs)(hn:xs.length*8≤140737488355328){K:SliceV→af→Prop}
  (hk:∀s' h',OwnS rp 1 bO (fun b=>h.size≤b) h' s' xs→Upd No h h'→K s' h'):HC PG di [.slice s.a s.len s.cap] [.c .slice] K h:=by
 refine md s ?_;unfold g8;refine CondP.intro (fun he=>?_) (fun hne=>?_)
 ·have he:s.a=none:=by simpa using he
  have hx:xs= []:=by
   by_cases hx:xs= []
   ·exact hx
   ·obtain⟨a,ha,_⟩:=h1.row hx
    rw[he]at ha;cases ha
  subst hx;exact hk _ _ (OwnS.nil rQ) (Upd.refl _ _)
 ·have h2:=h1.upd (Upd.hnew No h [] bO) (fun _ h=>h.elim)
  refine⟨_,h2.srow,?_⟩;refine AppP.own (f:=rp) (M:=fun b=>h.size≤b) (xs:= []) (ys:=xs) ⟨rfl,rQ,aq _,.inl rfl⟩ h1.len rfl (E6 xs) rfl (by omega) (by simpa using hn) (by rw[hH];omega) fun s' h' ho hu=>?_
  exact hk _ _ ho ((Upd.hnew No h [] bO).trans hu fun b hb=>.inr hb)
theorem OF{M:Nat→Prop}{h:af}{s:SliceV}{xs:List (Option Addr)}(hs:OwnS rp 1 bO M h s xs){k:Nat}(hkl:k<xs.length)(hn:xs.length≤4398046511104)
  {K:SliceV→af→Prop}(hK:∀s' h',OwnS rp 1 bO M h' s' (xs.take k++xs.drop (k+1))→Upd M h h'→K s' h'):
  HC PG eE [.slice s.a s.len s.cap,.int .i64 k,.int .i64 ((k+1:Nat):Int)] [.c .slice] K h:=by
 refine lW s k ((k+1:Nat):Int) ?_;unfold gO;have hlen:=hs.len;have hcap:=hs.cap;rcases hs.blk with h0|⟨b,rest,ha,hb,hc,hr⟩
 ·omega
 have hA:((xs.take k).flatMap rp).length=k*1:=by rw[lw rQ,aI,bo (by omega)]
 have hB:((xs.drop (k+1)).flatMap rp).length=(xs.length-(k+1))*1:=by rw[lw rQ,aN]
 have e1:xs.flatMap rp=(xs.take k).flatMap rp++(rp xs[k]++(xs.drop (k+1)).flatMap rp):=by
  rw[←aK,←gY hkl];exact zV xs k
 rw[e1]at hc;have hone:=E6 (xs.drop (k+1));have hins:(xs.take k++xs.drop (k+1)).flatMap rp=(xs.take k).flatMap rp++(xs.drop (k+1)).flatMap rp:=bI;have hX:(rp xs[k]).length=1:=rfl;generalize (xs.take k).flatMap rp=A at hA hc hins;generalize (xs.drop (k+1)).flatMap rp=B at hB hc hone hins;generalize rp xs[k]=X at hX hc;rw[ha];simp only[hlen,aS];refine⟨by omega,by omega,by omega,CondP.intro (fun e=>?_) fun _=>?_⟩
 ·have:(k:Int)=((k+1:Nat):Int):=by simpa using e
  omega
 refine Join.plain ⟨by omega,by omega,B,?_,?_⟩
 ·by_cases hlast:xs.length=k+1
  ·exact⟨hB,.inl (av.1 (by rw[hB,hlast,dk,wQ]))⟩
  rw[j6 (by omega)];refine l7 hc hB ?_;have:(A++X).length=0+(k+1)*1:=by rw[ac];omega
  rw[show A++(X++B)++rest=(A++X)++(B++rest) by simp only[ao],cp this,cL hB]
 ·rw[sub_zero]
  refine OS hc (by simp only[ac];omega) (by omega) hone fun h1 hb1 hu1=>?_
  have hr':rest.length=(s.cap-xs.length)*1:=by rw[hr,hlen]
  refine⟨by dsimp only;omega,by dsimp only;omega,?_⟩
  simp only[Bd];rw[j6 (by omega)];have en:xs.length-(k-0+(xs.length-(k+1)))=1:=by omega
  have hd1:(A++(X++B)++rest).drop ((k-0)*1+B.length)=(X++B).drop B.length++rest:=by
   rw[ao,←dC,cp (show A.length=(k-0)*1 by rw[hA,dL]),fI (by rw[ac];omega)]
  have ht1:(A++(X++B)++rest).take ((k-0)*1)=A:=by rw[ao,cL (show A.length=(k-0)*1 by rw[hA,dL])]
  rw[hd1,ht1]at hb1;have hdl:((X++B).drop B.length).length=1:=by rw[aN,ac];omega
  generalize (X++B).drop B.length=D at hdl hb1;rw[en];have hz:(dD 1 [.pointer none]).length=1:=rfl;have hAB:(A++B).length=0+(k-0+(xs.length-(k+1)))*1:=by rw[ac,hA,hB];omega
  refine JP hb1 (by simp only[ac]at hAB⊢;omega) fun h2 hb2 hu2=>?_
  rw[cL hAB,←dC,cp hAB]at hb2;refine hK _ _ ⟨by simp;omega,rQ,by simp only;omega,.inr ⟨b,dD 1 [.pointer none]++(D++rest).drop (dD 1 [.pointer none]).length,rfl,hb,?_,?_⟩⟩ ((hu1.mono fun _ e=>.inl (e▸hb)).tr (hu2.mono fun _ e=>.inl (e▸hb)))
  ·rw[hb2,hins];simp only[ao]
  ·simp only[ac,aN,hz,hdl,hr']
   omega
theorem Ji{W:Nat→Prop}{h:af}{s:SliceV}{xs:List (Option Addr)}(h1:Sl pC 1 W h s xs)(hn:xs.length*8≤140737488355328){K:SliceV→af→Prop}
  (hk:∀s' h',OwnS pC 1 aR (fun b=>h.size≤b) h' s' xs→Upd No h h'→K s' h'):HC PG cV [.slice s.a s.len s.cap] [.c .slice] K h:=by
 refine lC s ?_;unfold gr;refine CondP.intro (fun he=>?_) (fun hne=>?_)
 ·have he:s.a=none:=by simpa using he
  have hx:xs= []:=by
   by_cases hx:xs= []
   ·exact hx
   ·obtain⟨a,ha,_⟩:=h1.row hx
    rw[he]at ha;cases ha
  subst hx;exact hk _ _ (OwnS.nil mO) (Upd.refl _ _)
 ·have h2:=h1.upd (Upd.hnew No h [] aR) (fun _ h=>h.elim)
  refine⟨_,h2.srow,?_⟩;refine AppP.own (f:=pC) (M:=fun b=>h.size≤b) (xs:= []) (ys:=xs) ⟨rfl,mO,aq _,.inl rfl⟩ h1.len rfl (E5 xs) rfl (by omega) (by simpa using hn) (by rw[hH];omega) fun s' h' ho hu=>?_
  exact hk _ _ ho ((Upd.hnew No h [] aR).trans hu fun b hb=>.inr hb)
theorem OD{M:Nat→Prop}{h:af}{s:SliceV}{xs:List (Option Addr)}(hs:OwnS pC 1 aR M h s xs){k:Nat}(hkl:k<xs.length)(hn:xs.length≤4398046511104)
  {K:SliceV→af→Prop}(hK:∀s' h',OwnS pC 1 aR M h' s' (xs.take k++xs.drop (k+1))→Upd M h h'→K s' h'):
  HC PG dZ [.slice s.a s.len s.cap,.int .i64 k,.int .i64 ((k+1:Nat):Int)] [.c .slice] K h:=by
 refine kR s k ((k+1:Nat):Int) ?_;unfold gj;have hlen:=hs.len;have hcap:=hs.cap;rcases hs.blk with h0|⟨b,rest,ha,hb,hc,hr⟩
 ·omega
 have hA:((xs.take k).flatMap pC).length=k*1:=by rw[lw mO,aI,bo (by omega)]
 have hB:((xs.drop (k+1)).flatMap pC).length=(xs.length-(k+1))*1:=by rw[lw mO,aN]
 have e1:xs.flatMap pC=(xs.take k).flatMap pC++(pC xs[k]++(xs.drop (k+1)).flatMap pC):=by
  rw[←aK,←gY hkl];exact zV xs k
 rw[e1]at hc;have hone:=E5 (xs.drop (k+1));have hins:(xs.take k++xs.drop (k+1)).flatMap pC=(xs.take k).flatMap pC++(xs.drop (k+1)).flatMap pC:=bI;have hX:(pC xs[k]).length=1:=rfl;generalize (xs.take k).flatMap pC=A at hA hc hins;generalize (xs.drop (k+1)).flatMap pC=B at hB hc hone hins;generalize pC xs[k]=X at hX hc;rw[ha];simp only[hlen,aS];refine⟨by omega,by omega,by omega,CondP.intro (fun e=>?_) fun _=>?_⟩
 ·have:(k:Int)=((k+1:Nat):Int):=by simpa using e
  omega
 refine Join.plain ⟨by omega,by omega,B,?_,?_⟩
 ·by_cases hlast:xs.length=k+1
  ·exact⟨hB,.inl (av.1 (by rw[hB,hlast,dk,wQ]))⟩
  rw[j6 (by omega)];refine l7 hc hB ?_;have:(A++X).length=0+(k+1)*1:=by rw[ac];omega
  rw[show A++(X++B)++rest=(A++X)++(B++rest) by simp only[ao],cp this,cL hB]
 ·rw[sub_zero]
  refine OS hc (by simp only[ac];omega) (by omega) hone fun h1 hb1 hu1=>?_
  have hr':rest.length=(s.cap-xs.length)*1:=by rw[hr,hlen]
  refine⟨by dsimp only;omega,by dsimp only;omega,?_⟩
  simp only[Bd];rw[j6 (by omega)];have en:xs.length-(k-0+(xs.length-(k+1)))=1:=by omega
  have hd1:(A++(X++B)++rest).drop ((k-0)*1+B.length)=(X++B).drop B.length++rest:=by
   rw[ao,←dC,cp (show A.length=(k-0)*1 by rw[hA,dL]),fI (by rw[ac];omega)]
  have ht1:(A++(X++B)++rest).take ((k-0)*1)=A:=by rw[ao,cL (show A.length=(k-0)*1 by rw[hA,dL])]
  rw[hd1,ht1]at hb1;have hdl:((X++B).drop B.length).length=1:=by rw[aN,ac];omega
  generalize (X++B).drop B.length=D at hdl hb1;rw[en];have hz:(dD 1 [.pointer none]).length=1:=rfl;have hAB:(A++B).length=0+(k-0+(xs.length-(k+1)))*1:=by rw[ac,hA,hB];omega
  refine JP hb1 (by simp only[ac]at hAB⊢;omega) fun h2 hb2 hu2=>?_
  rw[cL hAB,←dC,cp hAB]at hb2;refine hK _ _ ⟨by simp;omega,mO,by simp only;omega,.inr ⟨b,dD 1 [.pointer none]++(D++rest).drop (dD 1 [.pointer none]).length,rfl,hb,?_,?_⟩⟩ ((hu1.mono fun _ e=>.inl (e▸hb)).tr (hu2.mono fun _ e=>.inl (e▸hb)))
  ·rw[hb2,hins];simp only[ao]
  ·simp only[ac,aN,hz,hdl,hr']
   omega
end Go.Proofs
namespace Go.Proofs
open Go.Lift
abbrev Pr:=ByteArray×ByteArray
theorem CY{a b:ByteArray}:a.toList=b.toList↔a=b:=by
 constructor
 ·intro h
  rw[ByteArray.toList_eq,ByteArray.toList_eq]at h;cases a;cases b;simp at h;subst h;rfl
 ·rintro rfl;rfl
def kl(a b:ByteArray):Prop:=Op.bytesLess a.toList b.toList=true
instance (a b:ByteArray):Decidable (kl a b):=inferInstanceAs (Decidable (_=true))
theorem J0{a b:ByteArray}:kl a b↔a.toList<b.toList:=by unfold kl;rw[bytesLess_eq,decide_eq_true_iff]
theorem bQ(a:ByteArray):¬kl a a:=by rw[J0];exact List.lt_irrefl _
theorem fp{a b c:ByteArray}(h:kl a b)(k:kl b c):kl a c:=by rw[J0]at*;exact List.lt_trans h k
theorem tri:∀x y:List UInt8,Op.bytesLess x y=false→x≠y→Op.bytesLess y x=true
 | [],[],_,h=>absurd rfl h
 | [],_::_,h,_=>by simp[Op.bytesLess]at h
 |_::_,[],_,_=>rfl
 |a::x,b::y,h,hn=>by
  simp only[Op.bytesLess,Bool.or_eq_false_iff,decide_eq_false_iff_not,Bool.and_eq_false_iff]at h;simp only[Op.bytesLess,Bool.or_eq_true,decide_eq_true_iff,Bool.and_eq_true];by_cases e:a=b
  ·subst e
   right;refine⟨by simp,tri x y ?_ fun e=>hn (by rw[e])⟩
   rcases h.2 with h|h
   ·simp at h
   ·exact h
  ·left
   have h1:=h.1;rw[UInt8.lt_iff_toNat_lt]at h1⊢;have:a.toNat≠b.toNat:=fun h=>e (UInt8.toNat_inj.1 h)
   omega
theorem o9{a b:ByteArray}(h:¬kl a b)(k:a≠b):kl b a:=tri _ _ (by unfold kl at h;simpa using h) fun e=>k (CY.1 e)
def Hv(a b:ByteArray):Int:=if kl a b then-1 else if a=b then 0 else 1
theorem L9{x:ByteArray}{h:af}{K:Bool→af→Prop}(hk:K false h):HC PG oU [.string x] [.c .bool] K h:=by
 refine EP x ?_;unfold xe;simpa using hk
theorem Gp{a b:ByteArray}{h:af}{K:Int→af→Prop}(hk:K (Hv a b) h):HC PG mz [.string a,.string b] [.c (.int .i64)] K h:=by
 refine BG a b ?_;unfold uA;refine L9 (L9 (ak.2 (ak.2 ?_)));unfold Hv at hk;refine CondP.intro (fun e=>?_) fun e=>?_
 ·rw[if_pos (show kl a b from e)]at hk;exact hk
 ·have hn:¬kl a b:=fun h=>by rw[show Op.bytesLess a.toList b.toList=true from h]at e;cases e
  rw[if_neg hn]at hk;rw[e];refine CondP.intro (fun e2=>?_) fun e2=>?_
  ·rw[if_neg (fun h=>by subst h;simp at e2)]at hk;exact hk
  ·have:a.toList=b.toList:=by simpa using e2
   rw[if_pos (CY.1 this)]at hk;exact hk
theorem LU{p:Pr}{k:ByteArray}{h:af}{K:Int→af→Prop}(hk:∀h',Upd No h h'→K (Hv p.1 k) h'):HC PG pW [.agg #[.string p.1,.string p.2],.string k] [.c (.int .i64)] K h:=by
 refine KD p k ?_;unfold BP ae;have b1:=bR h [.string p.1,.string p.2] al;refine⟨p.1,by rw[cF,bZ,bf b1];rfl,Gp (hk _ (Upd.hnew No h _ _))⟩
abbrev bD(l:List Pr):Prop:=l.Pairwise fun p q=>kl p.1 q.1
def o8(l:List Pr)(k:ByteArray):Nat:=(l.takeWhile fun p=>decide (kl p.1 k)).length
def cf(l:List Pr)(k:ByteArray):Bool:=l.any fun p=>decide (p.1=k)
theorem SH{l:List Pr}{k:ByteArray}{i:Nat}(hi:i≤l.length)(h1:∀j (h:j<l.length),j<i→kl l[j].1 k)(h2:∀(h:i<l.length),¬kl l[i].1 k):o8 l k=i:=by
 unfold o8;induction l generalizing i with
 |nil=>simp at hi;simp[hi]
 |cons p l ih=>
  rw[List.takeWhile_cons];cases i with
  |zero=>
   have:=h2 (by simp);simp only[fk]at this;rw[if_neg (by simpa using this)];rfl
  |succ i=>
   have:=h1 0 (by simp) (by omega);simp only[fk]at this;rw[if_pos (by simpa using this),List.length_cons];congr 1
   refine ih (by simpa using hi) (fun j hj hji=>?_) fun h=>?_
   ·have:=h1 (j+1) (by simpa using hj) (by omega)
    simpa using this
   ·have:=h2 (by simpa using h)
    simpa using this
theorem SI(l:List Pr)(k:ByteArray):o8 l k≤l.length:=by
 unfold o8;exact(List.takeWhile_prefix _).length_le
theorem Kf{W:Nat→Prop}{h:af}{s:SliceV}{l:List Pr}(hs:Sl eh 2 W h s l)(hr:bD l)(hn:l.length≤1000000000)(k:ByteArray){K:Int×Bool→af→Prop}
  (hk:∀h',Upd No h h'→K ((o8 l k:Int),cf l k) h'):HC PG ry [.slice s.a s.len s.cap,.string k] [.c (.int .i64),.c .bool] K h:=by
 refine MO s k ?_;unfold Eo;refine jo s k _ ?_;unfold eW ae bS;have hlen:=hs.len;have cmp:∀{p:Pr} {h:af} {K:Int→af→Prop},(∀h',Upd No h h'→K (Hv p.1 k) h')→HV PG (.func (.func pW) #[] #[]) [.agg #[.string p.1,.string p.2],.string k] [.c (.int .i64)] K h:=fun hk=>HV.mk' (LU hk)
 refine LoopP.ghost (fun(g:Nat×Nat) (t:Int×Int) h'=>t.1=(g.1:Int)∧t.2=(g.2:Int)∧g.1≤g.2∧g.2≤l.length∧Upd No h h'∧(∀j (hj:j<l.length),j<g.1→kl l[j].1 k)∧(∀j (hj:j<l.length),g.2≤j→¬kl l[j].1 k)) (fun g=>g.2-g.1) (0,l.length)
  ⟨rfl,by simp only;omega,by simp,by simp,Upd.refl _ _,fun j hj h=>by omega,fun j hj h=>by simp only at h;omega⟩ ?_
 rintro I ⟨i,j⟩ ⟨ti,tj⟩ h' ⟨e1,e2,hij,hjl,hu,hlo,hhi⟩ hI;simp only at e1 e2 hij hjl hlo hhi;subst e1 e2;have hs':=hs.upd hu fun _ h=>h.elim
 have mono:∀a b (ha:a<l.length) (hb:b<l.length),a<b→kl l[a].1 l[b].1:=fun a b ha hb hab=>List.pairwise_iff_getElem.1 hr a b ha hb hab
 refine ax (fun hlt=>?_) fun hge=>?_
 ·have hlt:i<j:=by have:(i:Int)<(j:Int):=hlt;omega
  have em:IntKind.wrap .i64 (db (IntKind.wrap .u64 (IntKind.wrap .i64 ((i:Int)+(j:Int)))) (2^(min (1:Int).toNat (IntKind.bits .u64))))=(((i+j)/2:Nat):Int):=by
   have e3:(2^(min (1:Int).toNat (IntKind.bits .u64)):Int)=2:=rfl;rw[e3,cS (x:=(i:Int)+(j:Int)) (by omega),Go.IntWalk.u64_in _ (by omega),Int.fdiv_eq_ediv_of_nonneg _ (by omega),cS (by omega)];omega
  refine⟨by decide,?_⟩;simp only[Bd];rw[em];generalize hm:(i+j)/2=m;have hml:m<l.length:=by omega
  obtain⟨a,ha,_,hv⟩:=hs'.at (ai hml);refine⟨by omega,a,ha,l[m].1,hv 0 _ rfl,l[m].2,hv 1 _ rfl,cmp fun h2 hu2=>?_⟩
  refine ax (fun hneg=>?_) fun hpos=>?_
  ·have hkl:kl l[m].1 k:=by
    unfold Hv at hneg;by_cases hkl:kl l[m].1 k
    ·exact hkl
    ·rw[if_neg hkl]at hneg;split at hneg<;>omega
   refine hI (m+1,j) _ _ ⟨by simp only;rw[cS (by omega)];omega,rfl,by simp only;omega,hjl,hu.tr hu2,fun q hq hqm=>?_,hhi⟩ (by simp only;omega)
   simp only at hqm;rcases bX q m with h|h
   ·exact fp (mono q m hq hml h) hkl
   ·have:q=m:=by omega
    subst this;exact hkl
  ·have hnk:¬kl l[m].1 k:=fun hkl=>hpos (by unfold Hv;rw[if_pos hkl];decide)
   refine hI (i,m) _ _ ⟨rfl,rfl,by simp only;omega,by simp only;omega,hu.tr hu2,hlo,fun q hq hqm hqk=>?_⟩ (by simp only;omega)
   simp only at hqm;rcases bX m q with h|h
   ·exact hnk (fp (mono m q hml hq h) hqk)
   ·have:q=m:=by omega
    subst this;exact hnk hqk
 ·have hij:i=j:=by have:¬(i:Int)<(j:Int):=hge;omega
  subst hij;have hp:o8 l k=i:=SH hjl hlo fun hi=>hhi i hi (aq _)
  rw[hp]at hk;refine ax (fun hlt=>?_) fun hnl=>?_
  ·have hil:i<l.length:=by have:(i:Int)<(s.len:Int):=hlt;omega
   obtain⟨a,ha,_,hv⟩:=hs'.at (ai hil);refine⟨by simp only;omega,a,ha,l[i].1,hv 0 _ rfl,l[i].2,hv 1 _ rfl,cmp fun h2 hu2=>?_⟩
   have hnk:=hhi i hil (aq _);have et:(Hv l[i].1 k==(0:Int))=cf l k:=by
    unfold Hv cf;rw[if_neg hnk,Bool.eq_iff_iff,List.any_eq_true];constructor
    ·intro h
     split at h
     ·rename_i e;exact⟨l[i],List.getElem_mem hil,decide_eq_true e⟩
     ·simp at h
    ·rintro⟨p,hp,e⟩
     have e:=of_decide_eq_true e;obtain⟨q,hq,rfl⟩:=List.mem_iff_getElem.1 hp;have:q=i:=by
      rcases Nat.lt_trichotomy q i with h|h|h
      ·exact absurd (e▸hlo q hq h) (bQ _)
      ·exact h
      ·exact absurd (e▸mono i q hil hq h) hnk
     subst this;rw[if_pos e];rfl
   rw[et];exact hk _ (hu.tr hu2)
  ·have hil:i=l.length:=by have:¬(i:Int)<(s.len:Int):=hnl;omega
   have et:cf l k=false:=by
    unfold cf;rw[List.any_eq_false];intro p hp e;have e:=of_decide_eq_true e;obtain⟨q,hq,rfl⟩:=List.mem_iff_getElem.1 hp;exact absurd (e▸hlo q hq (by omega)) (bQ _)
   rw[et]at hk;exact hk _ hu
end Go.Proofs
namespace Go.Proofs
inductive Fo where
 |nil:Fo
 |cons (lab:List UInt8) (val:Option ByteArray) (kids rest:Fo):Fo
abbrev Bn:=List UInt8×Option ByteArray×Fo
def Fo.toL:Fo→List Bn
 | .nil=> []
 | .cons lab w kids rest=>(lab,w,kids)::rest.toL
theorem Fo.toL_cons(lab:List UInt8)(w:Option ByteArray)(kids rest:Fo):(Fo.cons lab w kids rest).toL=(lab,w,kids)::rest.toL:=rfl
def Fo.ofL:List Bn→Fo
 | []=>.nil
 |(lab,w,kids)::l=>.cons lab w kids (Fo.ofL l)
theorem Fo.to_of:∀l:List Bn,(Fo.ofL l).toL=l
 | []=>rfl
 |(_,_,_)::l=>by show _::(Fo.ofL l).toL=_;rw[Fo.to_of l]
theorem Fo.of_to:∀F:Fo,Fo.ofL F.toL=F
 | .nil=>rfl
 | .cons lab w kids rest=>by show Fo.cons lab w kids (Fo.ofL rest.toL)=_;rw[Fo.of_to rest]
def qu:Fo→List UInt8→ByteArray→Prop
 | .nil,_,_=>False
 | .cons lab w kids rest,k,v=>(∃r,k=lab++r∧((r= []∧w=some v)∨qu kids r v))∨qu rest k v
def rL(w:Option ByteArray)(F:Fo)(k:List UInt8)(v:ByteArray):Prop:=(k= []∧w=some v)∨qu F k v
def tg(n:Bn)(k:List UInt8)(v:ByteArray):Prop:=∃r,k=n.1++r∧rL n.2.1 n.2.2 r v
theorem fD:∀{F:Fo} {k:List UInt8} {v:ByteArray},qu F k v↔∃n∈F.toL,tg n k v
 | .nil,_,_=>by simp[qu,Fo.toL]
 | .cons lab w kids rest,k,v=>by
  rw[Fo.toL_cons];unfold qu;rw[fD (F:=rest)];constructor
  ·rintro(h|⟨n,hn,h⟩)
   ·exact⟨_,ar ..,h⟩
   ·exact⟨n,aD _ hn,h⟩
  ·rintro⟨n,hn,h⟩
   rcases az.1 hn with rfl|hn
   ·exact .inl h
   ·exact .inr ⟨n,hn,h⟩
def hd(k:List UInt8):Nat:=(k.headD 0).toNat
theorem nX{a b:List UInt8}(h:a≠[]):hd (a++b)=hd a:=by
 cases a with
 |nil=>exact absurd rfl h
 |cons x a=>rfl
theorem UU(a:List UInt8):hd a<256:=UInt8.toNat_lt _
def fz:Fo→Prop
 | .nil=>True
 | .cons lab w kids rest=>lab≠[]∧(w.isSome∨2≤kids.toL.length)∧fz kids∧(∀n∈rest.toL,hd lab<hd n.1)∧fz rest
def KM(n:Bn):Prop:=n.1≠[]∧(n.2.1.isSome∨2≤n.2.2.toL.length)∧fz n.2.2
theorem dU:∀{F:Fo},fz F↔F.toL.Pairwise (fun m n=>hd m.1<hd n.1)∧∀n∈F.toL,KM n
 | .nil=>by simp[fz,Fo.toL]
 | .cons lab w kids rest=>by
  rw[Fo.toL_cons,aA];show(lab≠[]∧(w.isSome∨2≤kids.toL.length)∧fz kids∧(∀n∈rest.toL,hd lab<hd n.1)∧fz rest)↔_
  rw[dU (F:=rest)];constructor
  ·rintro⟨h1,h2,h3,h4,h5,h6⟩
   refine⟨⟨h4,h5⟩,fun n hn=>?_⟩
   rcases az.1 hn with rfl|hn
   ·exact⟨h1,h2,h3⟩
   ·exact h6 n hn
  ·rintro⟨⟨h4,h5⟩,h6⟩
   have:=h6 _ (ar ..);exact⟨this.1,this.2.1,this.2.2,h4,h5,fun n hn=>h6 n (aD _ hn)⟩
theorem mW:∀{F:Fo},fz F→∀n∈F.toL,∃r v,rL n.2.1 n.2.2 r v
 | .nil,_,n,hn=>by simp[Fo.toL]at hn
 | .cons lab w kids rest,h,n,hn=>by
  rcases az.1 hn with rfl|hn
  ·rcases h.2.1 with hw|hk
   ·obtain⟨v,hv⟩:=iw.1 hw
    exact⟨[],v,.inl ⟨rfl,hv⟩⟩
   ·have ih:=mW h.2.2.1
    have⟨m,hm⟩:∃m,m∈kids.toL:=by
     cases hl:kids.toL with
     |nil=>rw[hl]at hk;simp at hk
     |cons m l=>exact⟨m,ar ..⟩
    obtain⟨r,v,hr⟩:=ih m hm;exact⟨m.1++r,v,.inr (fD.2 ⟨m,hm,r,rfl,hr⟩)⟩
  ·exact mW h.2.2.2.2 n hn
theorem pd{F:Fo}(h:fz F){k:List UInt8}{v:ByteArray}(hi:qu F k v):k≠[]:=by
 obtain⟨n,hn,r,rfl,_⟩:=fD.1 hi;have:=((dU.1 h).2 n hn).1;intro e;exact this (jd.1 e).1
theorem qG{F:Fo}(h:fz F){k:List UInt8}{v:ByteArray}(hi:qu F k v):∃n∈F.toL,hd n.1=hd k∧tg n k v:=by
 obtain⟨n,hn,r,e,hr⟩:=fD.1 hi;exact⟨n,hn,by rw[e,nX ((dU.1 h).2 n hn).1],r,e,hr⟩
theorem wH{F:Fo}(h:fz F){m n:Bn}(hm:m∈F.toL)(hn:n∈F.toL)(e:hd m.1=hd n.1):m=n:=by
 have hp:=(dU.1 h).1;revert hm hn;generalize F.toL=l at*;clear h;induction l with
 |nil=>intro hm;simp at hm
 |cons a l ih=>
  have hp:=aA.1 hp;intro hm hn;rcases az.1 hm with e1|hm1
  ·rcases az.1 hn with e2|hn1
   ·rw[e1,e2]
   ·have:=hp.1 n hn1;rw[←e1]at this;omega
  ·rcases az.1 hn with e2|hn1
   ·have:=hp.1 m hm1;rw[←e2]at this;omega
   ·exact ih hp.2 hm1 hn1
def Br(P:List UInt8→ByteArray→Prop):Prop:=(∃v,P [] v)∨∃j k u v,P j u∧P k v∧j≠[]∧k≠[]∧hd j≠hd k
theorem Gy{w:Option ByteArray}{F:Fo}(h:fz F):(w.isSome∨2≤F.toL.length)↔Br (rL w F):=by
 constructor
 ·rintro(hw|hl)
  ·obtain⟨v,hv⟩:=iw.1 hw
   exact .inl ⟨v,.inl ⟨rfl,hv⟩⟩
  ·right
   have hs:=mW h;have hc:=dU.1 h;match hL:F.toL,hl with
   |a::b::l,_=>
    have ha:a∈F.toL:=by rw[hL];simp
    have hb:b∈F.toL:=by rw[hL];simp
    obtain⟨r,v,hr⟩:=hs a ha;obtain⟨s,u,hs⟩:=hs b hb;have h1:=(hc.2 a ha).1;have h2:=(hc.2 b hb).1;have:=hc.1;rw[hL]at this;have h3:=(aA.1 this).1 b (ar ..);refine⟨a.1++r,b.1++s,v,u,.inr (fD.2 ⟨a,ha,r,rfl,hr⟩),.inr (fD.2 ⟨b,hb,s,rfl,hs⟩),?_,?_,?_⟩
    ·intro e;exact h1 (jd.1 e).1
    ·intro e;exact h2 (jd.1 e).1
    ·rw[nX h1,nX h2];omega
 ·rintro(⟨v,hv⟩|⟨j,k,u,v,hj,hk,nj,nk,hne⟩)
  ·rcases hv with⟨_,hv⟩|hv
   ·left;rw[hv];rfl
   ·exact absurd rfl (pd h hv)
  ·right
   rcases hj with⟨e,_⟩|hj
   ·exact absurd e nj
   rcases hk with⟨e,_⟩|hk
   ·exact absurd e nk
   obtain⟨m,hm,em,_⟩:=qG h hj;obtain⟨n,hn,en,_⟩:=qG h hk;match hL:F.toL with
   | []=>rw[hL]at hm;simp at hm
   | [a]=>
    rw[hL]at hm hn;rw[aC.1 hm]at em;rw[aC.1 hn]at en;omega
   |a::b::l=>simp
end Go.Proofs
