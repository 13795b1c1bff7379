/- A part of the proof that the named laws of this program answer true, whatever the input. -/
import Derived.Test.YtceikogjngfacaaGreatPart9
import Derived.Test.YtceikogjngfacaaGreatPart0
import Derived.Test.YtceikogjngfacaaGreatPart2
import Derived.Test.YtceikogjngfacaaGreatPart1
import Derived.Test.YtceikogjngfacaaGreatPart6
import Derived.Test.YtceikogjngfacaaGreatPart7
open BitVec renaming ofInt→az
open Go.IntKind renaming wrap→ac,bits→aj
open Int renaming fdiv→fa,toNat_natCast→bQ,natCast_nonneg→gX,le_trans→sW,ofNat_le→sS
open List renaming mem_of_getElem?→ao,mem_cons→ar,not_mem_nil→dE,length_drop→aW,length_nil→aQ,nil_append→bZ,getElem?_eq_getElem→ag,take_of_length_le→bL,length_singleton→aI,length_append→af,append_assoc→aw,take_append_drop→aN,length_take→aL,length_cons→av,flatMap_cons→aZ,cons_append→dF,pairwise_append→bW,mem_singleton→aq,mem_append→be,getElem_mem→bR,take_succ_eq_append_getElem→bd,any_eq_true→dZ
open List.Pairwise renaming nil→dh
open Nat renaming le_refl→ai,zero_le→aY,lt_of_lt_of_le→aC,lt_irrefl→fx,mul_le_mul_right→eo,pow_succ→kh,mul_assoc→oe,mul_comm→gf,mul_one→vx,zero_add→bK,sub_zero→ec
open UInt8 renaming ofNat→cR
namespace Go.Proofs
open Go Go.Lift
def LOk{α β:Type}(Ok:α→β→Prop)(vs:List α)(rs:List β):Prop:=vs.length=rs.length∧∀(i:Nat) (v:α) (r:β),vs[i]? =some v→rs[i]? =some r→Ok v r
section
variable {α β:Type} {Ok Ok':α→β→Prop} {vs:List α} {rs:List β} {v:α} {r:β}
theorem LOk.nil:LOk Ok [] []:=⟨rfl,fun _ _ _ h=>by simp at h⟩
theorem LOk.imp(o:LOk Ok vs rs)(f:∀v r,Ok v r→Ok' v r):LOk Ok' vs rs:=⟨o.1,fun i v r h k=>f v r (o.2 i v r h k)⟩
theorem LOk.push(o:LOk Ok vs rs)(h:Ok v r):LOk Ok (vs++ [v]) (rs++ [r]):=by
 refine⟨by simp[o.1],fun i f d b h2=>?_⟩
 rw[List.getElem?_append]at b h2;rw[o.1]at b;split at b
 ·rename_i c
  rw[if_pos c]at h2;exact o.2 i f d b h2
 ·rename_i c
  rw[if_neg c]at h2;cases e:i-rs.length with
  |zero=>rw[e]at b h2;cases b;cases h2;exact h
  |succ n=>rw[e]at b;simp at b
end
abbrev qf(k:Int)(x:Hs)(nx:Int)(vs bs ts:SliceV)(last:Int)(ss:SliceV):List Value:= [.int .i64 k,.int .u64 x.k0,.int .u64 x.k1,.int .u64 x.mask,.int .u32 nx,.slice vs.a vs.len vs.cap,.slice bs.a bs.len bs.cap,.slice ts.a ts.len ts.cap,.int .i64 last,.slice ss.a ss.len ss.cap]
abbrev rX(b pb yi:Nat)(k:Int)(x:Hs)(nx:Int)(vs:SliceV)(VS:List RV)(bs:SliceV)(BS:List (ByteArray×Int))(ts:SliceV)(TS:List (ByteArray×Int))(last:Int)(ss:SliceV)(SS:List SR):List Sp:=
 [bV sr 8 103 vs VS,bV fJ 2 106 bs BS,bV fJ 2 106 ts TS,bV La 8 110 ss SS,bU pb (qf k x nx vs bs ts last ss) 53,bU yi (Q1 b k x) 95]
structure RdV(z q b:Nat)(k:Int)(x:Hs)(s:dV)(P:List Sp)(VS:List RV)(rv:List tL)(SS:List SR)(rz:List (Int×Bool×List Pr))(h:ae):Prop where
 r:Rd q b s P h
 v:LOk (VerOk (fun y=>y<z∨y=b∨AL P y) h k x) VS rv
 s:LOk (SesOk (fun y=>y<z∨y=b∨AL P y) h k x) SS rz
 lz:z≤h.size
section
variable {z q b pb yi:Nat} {k:Int} {x:Hs} {s s':dV} {P P':List Sp} {VS:List RV} {rv:List tL} {SS:List SR} {rz:List (Int×Bool×List Pr)} {h h':ae} {M:Nat→Prop} {nx last:Int} {vs bs ts ss:SliceV} {BS TS:List (ByteArray×Int)}
theorem RdV.go(R:RdV z q b k x s P VS rv SS rz h)(i:Rd q b s' P' h')(u:Upd M h h')(hm:∀y,M y→(y=b∨AL P y)∨h.size≤y)(g:∀y,AL P' y→AL P y∨h.size≤y):RdV z q b k x s' P' VS rv SS rz h':=by
 have f:∀y,(y<z∨y=b∨AL P' y)→(y<z∨y=b∨AL P y)∨h.size≤y:=fun y d=>by
  rcases d with e|e|e
  ·exact .inl (.inl e)
  ·exact .inl (.inr (.inl e))
  ·exact(g y e).imp (fun e=>.inr (.inr e)) id
 have c:∀y,M y→(y<z∨y=b∨AL P y)∨h.size≤y:=fun y d=>(hm y d).imp (fun e=>.inr e) id
 exact⟨i,R.v.imp fun v r o=>o.re u c f,R.s.imp fun v r o=>o.re u c f,Nat.le_trans R.lz u.size⟩
theorem RdV.rd(R:RdV z q b k x s P VS rv SS rz h)(i:InAt (·≠q) h' b s')(u:Upd (· =b) h h'):RdV z q b k x s' P VS rv SS rz h':=
 R.go (R.r.rd i u) u (fun _ c=>.inl (.inl c)) fun _ c=>.inl c
theorem qH{α:Type}(f:dV→α×dV):∀(n:Nat) (l:List α) (s:dV),jt f n l s=rV (fun g:List α×dV=>g.2) (fun g=>(g.1++ [(f g.2).1],(f g.2).2)) n (l,s)
 |0,_,_=>rfl
 |n+1,l,s=>by
  unfold jt rV;split
  ·exact qH f n _ _
  ·rfl
theorem Uf(R:RdV z q b k x s (rX b pb yi k x nx vs VS bs BS ts TS last ss SS) VS rv SS rz h)(n:k=0∨k=1)(H:s.1.length≤90000)(hv:VS.length≤900000){K:Unit→ae→Prop}
  (F:∀h' s' v,RdV z q b k x (nT s).2 (rX b pb yi k x nx s' (VS++ [v]) bs BS ts TS last ss SS) (VS++ [v]) (rv++ [(nT s).1]) SS rz h'→Upd (fun y=>y=b∨y=pb∨sb vs y) h h'→(∀y,sb s' y→sb vs y∨h.size≤y)→K () h'):
  eJ 32 [gF pb,gF yi] K h:=by
 refine Jj _ _ ?_;dsimp only[vO,cf,oX,F8,Uo,iv,dy,Og,dg,db,ce];refine⟨vs,R.r.cl 4 rfl 5,_,R.r.cl 5 rfl 0,_,R.r.cl 5 rfl 1,_,R.r.cl 5 rfl 2,_,R.r.cl 5 rfl 3,_,R.r.cl 5 rfl 4,Ng R.r n H fun C v E A I=>?_⟩
 have R1:=R.go E A (fun y c=>.inl (.inl c)) fun y c=>.inl c
 have O:=A.size;refine⟨R1.r.cl 4 rfl 5,bj fun h2 b2 m=>?_⟩
 have R2:=R1.go (R1.r.up0 m) m (fun _ h=>h.elim) fun y c=>.inl c
 have N:=m.size;refine⟨R2.r.cl 4 rfl 5,R2.r.push (y:=v) 0 rfl b2 rfl rfl ⟨by decide,by decide⟩ (by omega) fun s' P J B u=>J.wr (p:=pb) (i:=5) 4 rfl (by simp) fun j o D=>?_⟩
 have Q:=B.size;have w:Upd (fun y=>y=pb∨sb vs y) C j:=(m.wide.tr (B.mono fun y c=>.inl (.inr c))).tr (D.mono fun y c=>.inl (.inl c))
 have d:∀y,y=pb∨sb vs y→AL (rX b pb yi k x nx vs VS bs BS ts TS last ss SS) y:=fun y c=>c.elim (fun e=>⟨_,ao (i:=4) rfl,e⟩) fun e=>⟨_,ao (i:=0) rfl,e⟩
 have o:Rd q b (nT s).2 (rX b pb yi k x nx s' (VS++ [v]) bs BS ts TS last ss SS) j:=o;have L:∀y,AL (rX b pb yi k x nx s' (VS++ [v]) bs BS ts TS last ss SS) y→AL (rX b pb yi k x nx vs VS bs BS ts TS last ss SS) y∨h.size≤y:=by
  rintro y ⟨a,g,c⟩;simp only[ar,dE,or_false]at g;rcases g with rfl|rfl|rfl|rfl|rfl|rfl
  ·exact(u y c).elim (fun e=>.inl (d y (.inr e))) fun e=>.inr (by omega)
  ·exact .inl ⟨_,ao (i:=1) rfl,c⟩
  ·exact .inl ⟨_,ao (i:=2) rfl,c⟩
  ·exact .inl ⟨_,ao (i:=3) rfl,c⟩
  ·exact .inl (d y (.inl c))
  ·exact .inl ⟨_,ao (i:=5) rfl,c⟩
 have f:∀y,AL (rX b pb yi k x nx s' (VS++ [v]) bs BS ts TS last ss SS) y→AL (rX b pb yi k x nx vs VS bs BS ts TS last ss SS) y∨C.size≤y:=by
  rintro y ⟨a,g,c⟩;simp only[ar,dE,or_false]at g;rcases g with rfl|rfl|rfl|rfl|rfl|rfl
  ·exact(u y c).elim (fun e=>.inl (d y (.inr e))) fun e=>.inr (by omega)
  ·exact .inl ⟨_,ao (i:=1) rfl,c⟩
  ·exact .inl ⟨_,ao (i:=2) rfl,c⟩
  ·exact .inl ⟨_,ao (i:=3) rfl,c⟩
  ·exact .inl (d y (.inl c))
  ·exact .inl ⟨_,ao (i:=5) rfl,c⟩
 have R4:=R1.go o w (fun y c=>.inl (.inr (d y c))) f
 refine F j s' v ?_ ?_ fun y c=>(u y c).imp id fun e=>by omega
 ·have lz:=R.lz
  have G:VerOk (fun y=>y<z∨y=b∨AL (rX b pb yi k x nx s' (VS++ [v]) bs BS ts TS last ss SS) y) j k x v (nT s).1:=I.re w (fun y c=>.inl (R.r.o.al (d y c))) fun y c=>by
   rcases c with e|e|e
   ·exact .inl (by show y<h.size;omega)
   ·exact .inl (by show y<h.size;have:=R.r.lt;omega)
   ·exact(f y e).imp (fun e=>R.r.o.al e) id
  exact⟨R4.r,R4.v.push G,R4.s,R4.lz⟩
 ·exact(A.mono fun y c=>.inl (.inl c)).tr (w.mono fun y c=>.inl (.inr c))
theorem Ue(R:RdV z q b k x s (rX b pb yi k x nx vs VS bs BS ts TS last ss SS) VS rv SS rz h)(_:k=0∨k=1)(_:s.1.length≤90000)(hv:BS.length≤900000){K:Unit→ae→Prop}
  (E:∀h' s',RdV z q b k x (f7 s).2 (rX b pb yi k x nx vs VS s' (BS++ [(f7 s).1]) ts TS last ss SS) VS rv SS rz h'→Upd (fun y=>y=b∨y=pb∨sb bs y) h h'→(∀y,sb s' y→sb bs y∨h.size≤y)→K () h'):
  eJ 34 [gF pb,gF yi] K h:=by
 refine Ji _ _ ?_;dsimp only[vN,cf,oX,AS,Pz,iv,dy,Og,dg,db,ce];refine⟨bs,R.r.cl 4 rfl 6,_,R.r.cl 5 rfl 0,_,R.r.cl 5 rfl 1,_,R.r.cl 5 rfl 2,_,R.r.cl 5 rfl 3,_,R.r.cl 5 rfl 4,Nj R.r fun A D u=>?_⟩
 have R1:=R.go D u (fun y c=>.inl (.inl c)) fun y c=>.inl c
 have I:=u.size;refine⟨R1.r.cl 4 rfl 6,bj fun h2 b2 g=>?_⟩
 have R2:=R1.go (R1.r.up0 g) g (fun _ h=>h.elim) fun y c=>.inl c
 have H:=g.size;refine⟨R2.r.cl 4 rfl 6,R2.r.push (y:=(f7 s).1) 1 rfl b2 rfl rfl ⟨by decide,by decide⟩ (by omega) fun s' L F v o=>F.wr (p:=pb) (i:=6) 4 rfl (by simp) fun m n C=>?_⟩
 have N:=v.size;have w:Upd (fun y=>y=pb∨sb bs y) A m:=(g.wide.tr (v.mono fun y c=>.inl (.inr c))).tr (C.mono fun y c=>.inl (.inl c))
 have d:∀y,y=pb∨sb bs y→AL (rX b pb yi k x nx vs VS bs BS ts TS last ss SS) y:=fun y c=>c.elim (fun e=>⟨_,ao (i:=4) rfl,e⟩) fun e=>⟨_,ao (i:=1) rfl,e⟩
 have n:Rd q b (f7 s).2 (rX b pb yi k x nx vs VS s' (BS++ [(f7 s).1]) ts TS last ss SS) m:=n;have G:∀y,AL (rX b pb yi k x nx vs VS s' (BS++ [(f7 s).1]) ts TS last ss SS) y→AL (rX b pb yi k x nx vs VS bs BS ts TS last ss SS) y∨h.size≤y:=by
  rintro y ⟨a,f,c⟩;simp only[ar,dE,or_false]at f;rcases f with rfl|rfl|rfl|rfl|rfl|rfl
  ·exact .inl ⟨_,ao (i:=0) rfl,c⟩
  ·exact(o y c).elim (fun e=>.inl (d y (.inr e))) fun e=>.inr (by omega)
  ·exact .inl ⟨_,ao (i:=2) rfl,c⟩
  ·exact .inl ⟨_,ao (i:=3) rfl,c⟩
  ·exact .inl (d y (.inl c))
  ·exact .inl ⟨_,ao (i:=5) rfl,c⟩
 have j:∀y,AL (rX b pb yi k x nx vs VS s' (BS++ [(f7 s).1]) ts TS last ss SS) y→AL (rX b pb yi k x nx vs VS bs BS ts TS last ss SS) y∨A.size≤y:=by
  rintro y ⟨a,f,c⟩;simp only[ar,dE,or_false]at f;rcases f with rfl|rfl|rfl|rfl|rfl|rfl
  ·exact .inl ⟨_,ao (i:=0) rfl,c⟩
  ·exact(o y c).elim (fun e=>.inl (d y (.inr e))) fun e=>.inr (by omega)
  ·exact .inl ⟨_,ao (i:=2) rfl,c⟩
  ·exact .inl ⟨_,ao (i:=3) rfl,c⟩
  ·exact .inl (d y (.inl c))
  ·exact .inl ⟨_,ao (i:=5) rfl,c⟩
 have R4:=R1.go n w (fun y c=>.inl (.inr (d y c))) j
 refine E m s' R4 ?_ fun y c=>(o y c).imp id fun e=>by omega
 ·exact(u.mono fun y c=>.inl (.inl c)).tr (w.mono fun y c=>.inl (.inr c))
theorem Ud(R:RdV z q b k x s (rX b pb yi k x nx vs VS bs BS ts TS last ss SS) VS rv SS rz h)(_:k=0∨k=1)(_:s.1.length≤90000)(hv:TS.length≤900000){K:Unit→ae→Prop}
  (E:∀h' s',RdV z q b k x (f7 s).2 (rX b pb yi k x nx vs VS bs BS s' (TS++ [(f7 s).1]) last ss SS) VS rv SS rz h'→Upd (fun y=>y=b∨y=pb∨sb ts y) h h'→(∀y,sb s' y→sb ts y∨h.size≤y)→K () h'):
  eJ 36 [gF pb,gF yi] K h:=by
 refine Jh _ _ ?_;dsimp only[vM,cf,oX,AS,Pz,iv,dy,Og,dg,db,ce];refine⟨ts,R.r.cl 4 rfl 7,_,R.r.cl 5 rfl 0,_,R.r.cl 5 rfl 1,_,R.r.cl 5 rfl 2,_,R.r.cl 5 rfl 3,_,R.r.cl 5 rfl 4,Nj R.r fun A D u=>?_⟩
 have R1:=R.go D u (fun y c=>.inl (.inl c)) fun y c=>.inl c
 have I:=u.size;refine⟨R1.r.cl 4 rfl 7,bj fun h2 b2 g=>?_⟩
 have R2:=R1.go (R1.r.up0 g) g (fun _ h=>h.elim) fun y c=>.inl c
 have H:=g.size;refine⟨R2.r.cl 4 rfl 7,R2.r.push (y:=(f7 s).1) 2 rfl b2 rfl rfl ⟨by decide,by decide⟩ (by omega) fun s' L F v o=>F.wr (p:=pb) (i:=7) 4 rfl (by simp) fun m n C=>?_⟩
 have N:=v.size;have w:Upd (fun y=>y=pb∨sb ts y) A m:=(g.wide.tr (v.mono fun y c=>.inl (.inr c))).tr (C.mono fun y c=>.inl (.inl c))
 have d:∀y,y=pb∨sb ts y→AL (rX b pb yi k x nx vs VS bs BS ts TS last ss SS) y:=fun y c=>c.elim (fun e=>⟨_,ao (i:=4) rfl,e⟩) fun e=>⟨_,ao (i:=2) rfl,e⟩
 have n:Rd q b (f7 s).2 (rX b pb yi k x nx vs VS bs BS s' (TS++ [(f7 s).1]) last ss SS) m:=n;have G:∀y,AL (rX b pb yi k x nx vs VS bs BS s' (TS++ [(f7 s).1]) last ss SS) y→AL (rX b pb yi k x nx vs VS bs BS ts TS last ss SS) y∨h.size≤y:=by
  rintro y ⟨a,f,c⟩;simp only[ar,dE,or_false]at f;rcases f with rfl|rfl|rfl|rfl|rfl|rfl
  ·exact .inl ⟨_,ao (i:=0) rfl,c⟩
  ·exact .inl ⟨_,ao (i:=1) rfl,c⟩
  ·exact(o y c).elim (fun e=>.inl (d y (.inr e))) fun e=>.inr (by omega)
  ·exact .inl ⟨_,ao (i:=3) rfl,c⟩
  ·exact .inl (d y (.inl c))
  ·exact .inl ⟨_,ao (i:=5) rfl,c⟩
 have j:∀y,AL (rX b pb yi k x nx vs VS bs BS s' (TS++ [(f7 s).1]) last ss SS) y→AL (rX b pb yi k x nx vs VS bs BS ts TS last ss SS) y∨A.size≤y:=by
  rintro y ⟨a,f,c⟩;simp only[ar,dE,or_false]at f;rcases f with rfl|rfl|rfl|rfl|rfl|rfl
  ·exact .inl ⟨_,ao (i:=0) rfl,c⟩
  ·exact .inl ⟨_,ao (i:=1) rfl,c⟩
  ·exact(o y c).elim (fun e=>.inl (d y (.inr e))) fun e=>.inr (by omega)
  ·exact .inl ⟨_,ao (i:=3) rfl,c⟩
  ·exact .inl (d y (.inl c))
  ·exact .inl ⟨_,ao (i:=5) rfl,c⟩
 have R4:=R1.go n w (fun y c=>.inl (.inr (d y c))) j
 refine E m s' R4 ?_ fun y c=>(o y c).imp id fun e=>by omega
 ·exact(u.mono fun y c=>.inl (.inl c)).tr (w.mono fun y c=>.inl (.inr c))
theorem Uc(R:RdV z q b k x s (rX b pb yi k x nx vs VS bs BS ts TS last ss SS) VS rv SS rz h)(n:k=0∨k=1)(H:s.1.length≤90000)(hv:SS.length≤900000){K:Unit→ae→Prop}
  (F:∀h' s' v,RdV z q b k x (oB s).2 (rX b pb yi k x nx vs VS bs BS ts TS last s' (SS++ [v])) VS rv (SS++ [v]) (rz++ [(oB s).1]) h'→Upd (fun y=>y=b∨y=pb∨sb ss y) h h'→(∀y,sb s' y→sb ss y∨h.size≤y)→K () h'):
  eJ 38 [gF pb,gF yi] K h:=by
 refine Jg _ _ ?_;dsimp only[vL,cf,oX,Ir,Un,iv,dy,Og,dg,db,ce];refine⟨ss,R.r.cl 4 rfl 9,_,R.r.cl 5 rfl 0,_,R.r.cl 5 rfl 1,_,R.r.cl 5 rfl 2,_,R.r.cl 5 rfl 3,_,R.r.cl 5 rfl 4,Ni R.r n H fun C v E A I=>?_⟩
 have R1:=R.go E A (fun y c=>.inl (.inl c)) fun y c=>.inl c
 have O:=A.size;refine⟨R1.r.cl 4 rfl 9,bj fun h2 b2 m=>?_⟩
 have R2:=R1.go (R1.r.up0 m) m (fun _ h=>h.elim) fun y c=>.inl c
 have N:=m.size;refine⟨R2.r.cl 4 rfl 9,R2.r.push (y:=v) 3 rfl b2 rfl rfl ⟨by decide,by decide⟩ (by omega) fun s' P J B u=>J.wr (p:=pb) (i:=9) 4 rfl (by simp) fun j o D=>?_⟩
 have Q:=B.size;have w:Upd (fun y=>y=pb∨sb ss y) C j:=(m.wide.tr (B.mono fun y c=>.inl (.inr c))).tr (D.mono fun y c=>.inl (.inl c))
 have d:∀y,y=pb∨sb ss y→AL (rX b pb yi k x nx vs VS bs BS ts TS last ss SS) y:=fun y c=>c.elim (fun e=>⟨_,ao (i:=4) rfl,e⟩) fun e=>⟨_,ao (i:=3) rfl,e⟩
 have o:Rd q b (oB s).2 (rX b pb yi k x nx vs VS bs BS ts TS last s' (SS++ [v])) j:=o;have L:∀y,AL (rX b pb yi k x nx vs VS bs BS ts TS last s' (SS++ [v])) y→AL (rX b pb yi k x nx vs VS bs BS ts TS last ss SS) y∨h.size≤y:=by
  rintro y ⟨a,g,c⟩;simp only[ar,dE,or_false]at g;rcases g with rfl|rfl|rfl|rfl|rfl|rfl
  ·exact .inl ⟨_,ao (i:=0) rfl,c⟩
  ·exact .inl ⟨_,ao (i:=1) rfl,c⟩
  ·exact .inl ⟨_,ao (i:=2) rfl,c⟩
  ·exact(u y c).elim (fun e=>.inl (d y (.inr e))) fun e=>.inr (by omega)
  ·exact .inl (d y (.inl c))
  ·exact .inl ⟨_,ao (i:=5) rfl,c⟩
 have f:∀y,AL (rX b pb yi k x nx vs VS bs BS ts TS last s' (SS++ [v])) y→AL (rX b pb yi k x nx vs VS bs BS ts TS last ss SS) y∨C.size≤y:=by
  rintro y ⟨a,g,c⟩;simp only[ar,dE,or_false]at g;rcases g with rfl|rfl|rfl|rfl|rfl|rfl
  ·exact .inl ⟨_,ao (i:=0) rfl,c⟩
  ·exact .inl ⟨_,ao (i:=1) rfl,c⟩
  ·exact .inl ⟨_,ao (i:=2) rfl,c⟩
  ·exact(u y c).elim (fun e=>.inl (d y (.inr e))) fun e=>.inr (by omega)
  ·exact .inl (d y (.inl c))
  ·exact .inl ⟨_,ao (i:=5) rfl,c⟩
 have R4:=R1.go o w (fun y c=>.inl (.inr (d y c))) f
 refine F j s' v ?_ ?_ fun y c=>(u y c).imp id fun e=>by omega
 ·have lz:=R.lz
  have G:SesOk (fun y=>y<z∨y=b∨AL (rX b pb yi k x nx vs VS bs BS ts TS last s' (SS++ [v])) y) j k x v (oB s).1:=I.re w (fun y c=>.inl (R.r.o.al (d y c))) fun y c=>by
   rcases c with e|e|e
   ·exact .inl (by show y<h.size;omega)
   ·exact .inl (by show y<h.size;have:=R.r.lt;omega)
   ·exact(f y e).imp (fun e=>R.r.o.al e) id
  exact⟨R4.r,R4.v,R4.s.push G,R4.lz⟩
 ·exact(A.mono fun y c=>.inl (.inl c)).tr (w.mono fun y c=>.inl (.inr c))
end
end Go.Proofs
namespace Go.Proofs
open Go Go.Lift
abbrev qK(s:dV):=jW s
abbrev qN(s:dV):=aS 4294967295 (qK s).2
abbrev qV(s:dV):=jd nT (qN s).2
abbrev qB(s:dV):=jd f7 (qV s).2
abbrev qT(s:dV):=jd f7 (qB s).2
abbrev qL(s:dV):=aS 2147483648 (qT s).2
abbrev qZ(s:dV):=jd oB (qL s).2
theorem GF(s:dV):tA s=(⟨(qK s).1.1,(qK s).1.2,(qN s).1,(qV s).1,(qB s).1,(qT s).1,(qL s).1,(qZ s).1⟩,xi (qZ s).2):=rfl
theorem wd(s:dV):Go1 s (aP s).2:=GD 1 s
theorem zP(s:dV):Go1 s (f8 s).2:=GD 8 s
theorem pm{e:Int}(b:e≠0)(s:dV):(cS e s).2≠0:=by
 unfold cS;split
 ·exact b
 ·assumption
theorem JS(s:dV):Go1 s (jW s).2∧((jW s).2.2=0→((jW s).1.1:Int)=0∨((jW s).1.1:Int)=1):=by
 have c:Go1 s (if(aP s).1=81 then(aP s).2 else cS 9 (aP s).2):=by
  split
  ·exact wd s
  ·exact(wd s).trans (tB _)
 have b:jW s=(if(aP (if(aP s).1=81 then(aP s).2 else cS 9 (aP s).2)).1=0 then
   ((0,⟨(f8 (aP (if(aP s).1=81 then(aP s).2 else cS 9 (aP s).2)).2).1,(f8 (f8 (aP (if(aP s).1=81 then(aP s).2 else cS 9 (aP s).2)).2).2).1,(f8 (f8 (f8 (aP (if(aP s).1=81 then(aP s).2 else cS 9 (aP s).2)).2).2).2).1⟩),(f8 (f8 (f8 (aP (if(aP s).1=81 then(aP s).2 else cS 9 (aP s).2)).2).2).2).2)
   else if(aP (if(aP s).1=81 then(aP s).2 else cS 9 (aP s).2)).1=1 then((1,⟨0,0,0⟩),(aP (if(aP s).1=81 then(aP s).2 else cS 9 (aP s).2)).2)else(((aP (if(aP s).1=81 then(aP s).2 else cS 9 (aP s).2)).1,⟨0,0,0⟩),cS 11 (aP (if(aP s).1=81 then(aP s).2 else cS 9 (aP s).2)).2)):=rfl
 rw[b];generalize (if(aP s).1=81 then(aP s).2 else cS 9 (aP s).2)=s1 at*
 have h2:=c.trans (wd s1);split
 ·exact⟨((h2.trans (zP _)).trans (zP _)).trans (zP _),fun _=>.inl rfl⟩
 ·rename_i h0
  split
  ·exact⟨h2,fun _=>.inr rfl⟩
  ·exact⟨h2.trans (tB _),fun e=>absurd e (pm (by decide) _)⟩
theorem GE{m:Nat}{s:dV}(h:(aS m s).2.2=0):(aS m s).2.1.length+1≤s.1.length:=by
 unfold aS at h⊢;split at h
 ·exact absurd h (pm (by decide) _)
 ·rename_i h1
  rw[if_neg h1];unfold dX at h⊢;split at h
  ·rename_i h0
   rw[if_pos h0];cases e:sE 0 0 s.1 with
   |none=>rw[e]at h;exact absurd (show(9:Int)=0 from h) (by decide)
   |some p=>
    obtain⟨n,k⟩:=p;have:=xk s.1 0 0 (by omega) (by simp) e;simp only[aW];omega
  ·rename_i h0;exact absurd h h0
theorem ur(s:dV):Go1 s (nT s).2:=((dW 4294967295 s).trans (dW 2 _)).trans ((Cd _ _ _).trans (tq _))
theorem lf(s:dV):Go1 s (f7 s).2:=(yD 32 9 s).trans (dW _ _)
theorem zQ(s:dV):Go1 s (ig s).2:=by
 show Go1 s (if 1<(aP s).1 then cS 9 (aP s).2 else(aP s).2)
 split
 ·exact(wd s).trans (tB _)
 ·exact wd s
theorem Cc(s:dV):Go1 s (oB s).2:=(dW 2147483648 s).trans ((zQ _).trans (tq _))
theorem MZ{s:dV}(h:(nT s).2.2=0):(nT s).2.1.length+1≤s.1.length:=by
 have g:Go1 (aS 4294967295 s).2 (nT s).2:=(dW 2 _).trans ((Cd _ _ _).trans (tq _));have:=GE (wt g h);have:=g.1;omega
theorem GI{s:dV}(h:(f7 s).2.2=0):(f7 s).2.1.length+1≤s.1.length:=by
 have g:Go1 (cI 32 9 s).2 (f7 s).2:=dW _ _;have:=JO (by decide) (wt g h);have:=g.1;omega
theorem M1{s:dV}(h:(oB s).2.2=0):(oB s).2.1.length+1≤s.1.length:=by
 have g:Go1 (aS 2147483648 s).2 (oB s).2:=(zQ _).trans (tq _);have:=GE (wt g h);have:=g.1;omega
theorem zN{α:Type}{f:dV→α×dV}(b:∀s,Go1 s (f s).2):∀(n:Nat) (l:List α) (s:dV),Go1 s (jt f n l s).2
 |0,_,s=>Go1.refl s
 |n+1,l,s=>by
  unfold jt;split
  ·exact(b s).trans (zN b n _ _)
  ·exact Go1.refl s
theorem m0{α:Type}{f:dV→α×dV}(b:∀s,Go1 s (f s).2)(s:dV):Go1 s (jd f s).2:=(jF s).trans (zN b _ _ _)
structure RdN(N c:Nat)(s:dV):Prop where
 len:c+s.1.length≤N+1
 len0:s.2=0→c+s.1.length≤N
theorem RdN.next{N c:Nat}{s t:dV}(r:RdN N c s)(d:s.2=0)(g:Go1 s t)(f:t.2=0→t.1.length+1≤s.1.length):RdN N (c+1) t:=by
 have a:=r.len0 d;have b:=g.1;exact⟨by omega,fun e=>by have:=f e;omega⟩
theorem RdN.zero{N:Nat}{s:dV}(h:s.1.length≤N):RdN N 0 s:=⟨by omega,fun _=>by omega⟩
theorem Yy{q0:Nat}{W:Nat→Prop}{h:ae}{sl:SliceV}{l:List UInt8}(p:q0<h.size)(u:Sl tK 1 W h sl l)(P:l.length≤90000){K:Option Addr→ae→Prop}
  (A:∀h' b q,InAt (·≠q) h' b (l,0)→Upd No h h'→h.size≤b→(q=q0∨h.size≤q)→q<h'.size→K (some ⟨b,0,none⟩) h'):
  fh 28 [.slice sl.a sl.len sl.cap] K h:=by
 have E:=u.len;refine eM (KP sl) .nil Tryz.func28 Tryz.call28 ?_;unfold KP Dw;refine eM (AO sl) .nil Tryz.func74 Tryz.call74 ?_;unfold AO;refine CondP.intro (fun c=>?_) fun c=>?_
 ·have c:sl.a=none:=by simpa using c
  have hx:l= []:=by
   by_cases hx:l= []
   ·exact hx
   ·obtain⟨a,d,_⟩:=u.row hx
    rw[c]at d;cases d
  subst hx;refine bj fun B b1 k1=>A B h.size q0 ⟨⟨fL,b1,Sl.nil rx,ai _⟩,by show h.size≠q0;omega,aY _⟩ k1 (ai _) (.inl rfl) (aC p k1.size)
 ·refine bj fun B b1 k1=>?_
  refine⟨_,(u.upd k1 fun _ h=>h.elim).srow,?_⟩
  refine AppP.own (f:=tK) (M:=fun b=>h.size≤b) (xs:= []) (ys:=l) ⟨rfl,rx,ai _,.inl rfl⟩ E rfl (Ck l) rfl (by omega) (by simp only[aQ];omega) (by have:=k1.size;omega) fun s' h2 i w=>?_
  have x:Upd No h h2:=k1.trans w fun b N=>.inr N
  have D:=x.size;have O:=bc b1;have G:=w.size;obtain⟨q,n,L,s⟩:∃q,(h.size≤q)∧q<h2.size∧∀a,s'.a=some a→s'.cap≠0→a.block=q:=by
   rcases i.blk with e|⟨q,z,e,n,F,_⟩
   ·exact⟨h.size,ai _,by omega,fun _ _ J=>absurd e J⟩
   ·refine⟨q,n,bc F,fun a d _=>?_⟩
    rw[e]at d;cases d;rfl
  have v:Sl tK 1 (·≠q) h2 s' l:=by
   have o:=i.its;rw[bZ]at o;exact o.sl fun y H C m=>m (by obtain⟨hc,a,d,rfl⟩:=H;exact s a d hc)
  have g:s'.len≤s'.cap:=i.cap;refine bj fun I b3 j=>A I h2.size q ⟨⟨s',b3,v.upd j fun _ h=>h.elim,g⟩,by show h2.size≠q;omega,by show l.length≤_;omega⟩ (x.tr j) D (.inr n) (by have:=j.size;omega)
end Go.Proofs
namespace Go.Proofs
open Go Go.Lift
abbrev zR(v:Pt):List Value:= [.int .i64 v.1,.int .u64 v.2.1,.int .u64 v.2.2.1,.int .u64 v.2.2.2.1,.int .u32 v.2.2.2.2.1,.slice v.2.2.2.2.2.1.a v.2.2.2.2.2.1.len v.2.2.2.2.2.1.cap,.slice v.2.2.2.2.2.2.1.a v.2.2.2.2.2.2.1.len v.2.2.2.2.2.2.1.cap,.slice v.2.2.2.2.2.2.2.1.a v.2.2.2.2.2.2.2.1.len v.2.2.2.2.2.2.2.1.cap,.int .i64 v.2.2.2.2.2.2.2.2.1,.slice v.2.2.2.2.2.2.2.2.2.a v.2.2.2.2.2.2.2.2.2.len v.2.2.2.2.2.2.2.2.2.cap]
abbrev aaI:Pt:=(0,0,0,0,0,fL,fL,fL,0,fL)
abbrev WQ:List Kind:= [.agg [.int .i64,.int .u64,.int .u64,.int .u64,.int .u32,.slice,.slice,.slice,.int .i64,.slice],.c (.int .i64)]
structure PtIs(W:Nat→Prop)(h:ae)(u:Pt)(p:RParts):Prop where
 k:u.1=p.kind
 x:u.2.1=p.x.k0∧u.2.2.1=p.x.k1∧u.2.2.2.1=p.x.mask
 n:u.2.2.2.2.1=p.next
 v:∃VS,Sl sr 8 W h u.2.2.2.2.2.1 VS∧LOk (VerOk W h p.kind p.x) VS p.vs
 b:Sl fJ 2 W h u.2.2.2.2.2.2.1 p.bs
 t:Sl fJ 2 W h u.2.2.2.2.2.2.2.1 p.ts
 l:u.2.2.2.2.2.2.2.2.1=p.last
 s:∃SS,Sl La 8 W h u.2.2.2.2.2.2.2.2.2 SS∧LOk (SesOk W h p.kind p.x) SS p.ss
section
variable {z q b pb yi:Nat} {k:Int} {x:Hs} {s s':dV} {P P':List Sp} {VS:List RV} {rv:List tL} {SS:List SR} {rz:List (Int×Bool×List Pr)} {h h' z0:ae} {M:Nat→Prop} {nx last:Int} {vs bs ts ss:SliceV} {BS TS:List (ByteArray×Int)}
theorem RQ(R:RdV z q b k x s (rX b pb yi k x nx fL [] fL [] fL [] 0 fL []) [] [] [] [] h)(m:s.2=0→k=0∨k=1)(P:s.1.length≤90000)(w:Upd No z0 h)(T:z0.size≤b)(D:z0.size≤pb){K:Unit→ae→Prop}
  (E:∀h' vs VS,RdV z q b k x (jd nT s).2 (rX b pb yi k x nx vs VS fL [] fL [] 0 fL []) VS (jd nT s).1 [] [] h'→Upd No z0 h'→(∀y,sb vs y→z0.size≤y)→K () h'):
  eJ 31 [UP b k x,.func (.func 32) #[] #[gF pb,gF yi]] K h:=by
 have Q:=R.r.lt;have O:pb<h.size:=R.r.o.al ⟨_,ao (i:=4) rfl,rfl⟩;have N:=w.size;refine wk (G:=List tL×dV) (Inv:=fun g h'=>∃vs VS,RdV z q b k x g.2 (rX b pb yi k x nx vs VS fL [] fL [] 0 fL []) VS g.1 [] [] h'∧RdN s.1.length g.1.length g.2∧h.size<h'.size∧(∀y,sb vs y→h.size<y)∧Upd No z0 h'∧(g.2.2=0→s.2=0)) (st:=fun g=>g.2) (step:=fun g=>(g.1++ [(nT g.2).1],(nT g.2).2)) (M:=fun y=>y=b∨y=pb∨h.size<y) R.r.i ([],(dX s).2) ?_ ?_ ?_ ?_ ?_
 ·rintro(e|e|e)
  ·omega
  ·omega
  ·exact fx _ e
 ·intro h' H A u
  refine⟨fL,[],R.rd H A,RdN.zero (jF s).1,u,fun y c=>absurd c (ie y),w.trans A fun y c=>.inr (by have c:y=b:=c;omega),wt (jF s)⟩
 ·rintro g h' ⟨vs,VS,R',_⟩;exact R'.r.i
 ·rintro⟨l,f⟩ S ⟨vs,VS,R',o,u,d,w',C⟩ j
  have L:l.length+f.1.length≤s.1.length+1:=o.len;have U:VS.length=l.length:=R'.v.1;have j:f.2=0:=j;have n:=o.len0 j;refine Uf R' (m (C j)) (show f.1.length≤90000 by have:l.length+f.1.length≤s.1.length:=n;omega) (by omega) fun h2 s' v R2 p I=>⟨⟨s',_,R2,?_,aC u p.size,fun y c=>(I y c).elim (d y) fun e=>by omega,w'.trans p fun y c=>.inr ?_,fun e=>C (wt (ur f) e)⟩,p.mono fun y c=>.inl (c.imp id fun e=>e.imp id (d y))⟩
  ·have:=o.next j (ur f) MZ
   simpa using this
  ·rcases c with e|e|e
   ·omega
   ·omega
   ·have:=d y e;omega
 ·rintro J ⟨vs,VS,B,_,_,d,F,_⟩
  have e:rV (fun g:List tL×dV=>g.2) (fun g=>(g.1++ [(nT g.2).1],(nT g.2).2)) (dX s).1 ([],(dX s).2)=jd nT s:=(qH ..).symm
  rw[e]at B;exact E J vs VS B F fun y c=>by have:=d y c;omega
theorem RP(R:RdV z q b k x s (rX b pb yi k x nx vs VS fL [] fL [] 0 fL []) VS rv [] [] h)(m:s.2=0→k=0∨k=1)(O:s.1.length≤90000)(w:Upd No z0 h)(S:z0.size≤b)(C:z0.size≤pb){K:Unit→ae→Prop}
  (D:∀h' bs,RdV z q b k x (jd f7 s).2 (rX b pb yi k x nx vs VS bs (jd f7 s).1 fL [] 0 fL []) VS rv [] [] h'→Upd No z0 h'→(∀y,sb bs y→z0.size≤y)→K () h'):
  eJ 31 [UP b k x,.func (.func 34) #[] #[gF pb,gF yi]] K h:=by
 have P:=R.r.lt;have N:pb<h.size:=R.r.o.al ⟨_,ao (i:=4) rfl,rfl⟩;have L:=w.size;refine wk (G:=List (ByteArray×Int)×dV) (Inv:=fun g h'=>∃bs,RdV z q b k x g.2 (rX b pb yi k x nx vs VS bs g.1 fL [] 0 fL []) VS rv [] [] h'∧RdN s.1.length g.1.length g.2∧h.size<h'.size∧(∀y,sb bs y→h.size<y)∧Upd No z0 h'∧(g.2.2=0→s.2=0)) (st:=fun g=>g.2) (step:=fun g=>(g.1++ [(f7 g.2).1],(f7 g.2).2)) (M:=fun y=>y=b∨y=pb∨h.size<y) R.r.i ([],(dX s).2) ?_ ?_ ?_ ?_ ?_
 ·rintro(e|e|e)
  ·omega
  ·omega
  ·exact fx _ e
 ·intro h' F v u
  refine⟨fL,R.rd F v,RdN.zero (jF s).1,u,fun y c=>absurd c (ie y),w.trans v fun y c=>.inr (by have c:y=b:=c;omega),wt (jF s)⟩
 ·rintro g h' ⟨bs,R',_⟩;exact R'.r.i
 ·rintro⟨l,f⟩ Q ⟨bs,R',o,u,d,w',B⟩ j
  have J:l.length+f.1.length≤s.1.length+1:=o.len;have T:l.length=l.length:=rfl;have j:f.2=0:=j;have n:=o.len0 j;refine Ue R' (m (B j)) (show f.1.length≤90000 by have:l.length+f.1.length≤s.1.length:=n;omega) (show l.length≤900000 by omega) fun h2 s' R2 p H=>⟨⟨s',R2,?_,aC u p.size,fun y c=>(H y c).elim (d y) fun e=>by omega,w'.trans p fun y c=>.inr ?_,fun e=>B (wt (lf f) e)⟩,p.mono fun y c=>.inl (c.imp id fun e=>e.imp id (d y))⟩
  ·have:=o.next j (lf f) GI
   simpa using this
  ·rcases c with e|e|e
   ·omega
   ·omega
   ·have:=d y e;omega
 ·rintro I ⟨bs,A,_,_,d,E,_⟩
  have e:rV (fun g:List (ByteArray×Int)×dV=>g.2) (fun g=>(g.1++ [(f7 g.2).1],(f7 g.2).2)) (dX s).1 ([],(dX s).2)=jd f7 s:=(qH ..).symm
  rw[e]at A;exact D I bs A E fun y c=>by have:=d y c;omega
theorem RO(R:RdV z q b k x s (rX b pb yi k x nx vs VS bs BS fL [] 0 fL []) VS rv [] [] h)(m:s.2=0→k=0∨k=1)(O:s.1.length≤90000)(w:Upd No z0 h)(S:z0.size≤b)(C:z0.size≤pb){K:Unit→ae→Prop}
  (D:∀h' ts,RdV z q b k x (jd f7 s).2 (rX b pb yi k x nx vs VS bs BS ts (jd f7 s).1 0 fL []) VS rv [] [] h'→Upd No z0 h'→(∀y,sb ts y→z0.size≤y)→K () h'):
  eJ 31 [UP b k x,.func (.func 36) #[] #[gF pb,gF yi]] K h:=by
 have P:=R.r.lt;have N:pb<h.size:=R.r.o.al ⟨_,ao (i:=4) rfl,rfl⟩;have L:=w.size;refine wk (G:=List (ByteArray×Int)×dV) (Inv:=fun g h'=>∃ts,RdV z q b k x g.2 (rX b pb yi k x nx vs VS bs BS ts g.1 0 fL []) VS rv [] [] h'∧RdN s.1.length g.1.length g.2∧h.size<h'.size∧(∀y,sb ts y→h.size<y)∧Upd No z0 h'∧(g.2.2=0→s.2=0)) (st:=fun g=>g.2) (step:=fun g=>(g.1++ [(f7 g.2).1],(f7 g.2).2)) (M:=fun y=>y=b∨y=pb∨h.size<y) R.r.i ([],(dX s).2) ?_ ?_ ?_ ?_ ?_
 ·rintro(e|e|e)
  ·omega
  ·omega
  ·exact fx _ e
 ·intro h' F v u
  refine⟨fL,R.rd F v,RdN.zero (jF s).1,u,fun y c=>absurd c (ie y),w.trans v fun y c=>.inr (by have c:y=b:=c;omega),wt (jF s)⟩
 ·rintro g h' ⟨ts,R',_⟩;exact R'.r.i
 ·rintro⟨l,f⟩ Q ⟨ts,R',o,u,d,w',B⟩ j
  have J:l.length+f.1.length≤s.1.length+1:=o.len;have T:l.length=l.length:=rfl;have j:f.2=0:=j;have n:=o.len0 j;refine Ud R' (m (B j)) (show f.1.length≤90000 by have:l.length+f.1.length≤s.1.length:=n;omega) (show l.length≤900000 by omega) fun h2 s' R2 p H=>⟨⟨s',R2,?_,aC u p.size,fun y c=>(H y c).elim (d y) fun e=>by omega,w'.trans p fun y c=>.inr ?_,fun e=>B (wt (lf f) e)⟩,p.mono fun y c=>.inl (c.imp id fun e=>e.imp id (d y))⟩
  ·have:=o.next j (lf f) GI
   simpa using this
  ·rcases c with e|e|e
   ·omega
   ·omega
   ·have:=d y e;omega
 ·rintro I ⟨ts,A,_,_,d,E,_⟩
  have e:rV (fun g:List (ByteArray×Int)×dV=>g.2) (fun g=>(g.1++ [(f7 g.2).1],(f7 g.2).2)) (dX s).1 ([],(dX s).2)=jd f7 s:=(qH ..).symm
  rw[e]at A;exact D I ts A E fun y c=>by have:=d y c;omega
theorem RN(R:RdV z q b k x s (rX b pb yi k x nx vs VS bs BS ts TS last fL []) VS rv [] [] h)(m:s.2=0→k=0∨k=1)(P:s.1.length≤90000)(w:Upd No z0 h)(T:z0.size≤b)(D:z0.size≤pb){K:Unit→ae→Prop}
  (E:∀h' ss SS,RdV z q b k x (jd oB s).2 (rX b pb yi k x nx vs VS bs BS ts TS last ss SS) VS rv SS (jd oB s).1 h'→Upd No z0 h'→(∀y,sb ss y→z0.size≤y)→K () h'):
  eJ 31 [UP b k x,.func (.func 38) #[] #[gF pb,gF yi]] K h:=by
 have Q:=R.r.lt;have O:pb<h.size:=R.r.o.al ⟨_,ao (i:=4) rfl,rfl⟩;have N:=w.size;refine wk (G:=List (Int×Bool×List Pr)×dV) (Inv:=fun g h'=>∃ss SS,RdV z q b k x g.2 (rX b pb yi k x nx vs VS bs BS ts TS last ss SS) VS rv SS g.1 h'∧RdN s.1.length g.1.length g.2∧h.size<h'.size∧(∀y,sb ss y→h.size<y)∧Upd No z0 h'∧(g.2.2=0→s.2=0)) (st:=fun g=>g.2) (step:=fun g=>(g.1++ [(oB g.2).1],(oB g.2).2)) (M:=fun y=>y=b∨y=pb∨h.size<y) R.r.i ([],(dX s).2) ?_ ?_ ?_ ?_ ?_
 ·rintro(e|e|e)
  ·omega
  ·omega
  ·exact fx _ e
 ·intro h' H A u
  refine⟨fL,[],R.rd H A,RdN.zero (jF s).1,u,fun y c=>absurd c (ie y),w.trans A fun y c=>.inr (by have c:y=b:=c;omega),wt (jF s)⟩
 ·rintro g h' ⟨ss,SS,R',_⟩;exact R'.r.i
 ·rintro⟨l,f⟩ S ⟨ss,SS,R',o,u,d,w',C⟩ j
  have L:l.length+f.1.length≤s.1.length+1:=o.len;have U:SS.length=l.length:=R'.s.1;have j:f.2=0:=j;have n:=o.len0 j;refine Uc R' (m (C j)) (show f.1.length≤90000 by have:l.length+f.1.length≤s.1.length:=n;omega) (by omega) fun h2 s' v R2 p I=>⟨⟨s',_,R2,?_,aC u p.size,fun y c=>(I y c).elim (d y) fun e=>by omega,w'.trans p fun y c=>.inr ?_,fun e=>C (wt (Cc f) e)⟩,p.mono fun y c=>.inl (c.imp id fun e=>e.imp id (d y))⟩
  ·have:=o.next j (Cc f) M1
   simpa using this
  ·rcases c with e|e|e
   ·omega
   ·omega
   ·have:=d y e;omega
 ·rintro J ⟨ss,SS,B,_,_,d,F,_⟩
  have e:rV (fun g:List (Int×Bool×List Pr)×dV=>g.2) (fun g=>(g.1++ [(oB g.2).1],(oB g.2).2)) (dX s).1 ([],(dX s).2)=jd oB s:=(qH ..).symm
  rw[e]at B;exact E J ss SS B F fun y c=>by have:=d y c;omega
end
end Go.Proofs
namespace Go.Proofs
open Go Go.Lift
abbrev iV(x:Int):Value:=.int .i64 x
section
variable {z h:ae} {sp vp sm pb cb:Nat} {s:VS} {last:Int} {ids:List Int} {es:List Se} {Ss:List Sp} {o:Za}
end
end Go.Proofs
namespace Go.Proofs
open Go Go.Lift
end Go.Proofs
namespace Go.Proofs
open Go Go.Lift
def byN(s:ByteArray)(i:Nat):Nat:=if h:i<s.size then(s[i]'h).toNat else 0
def hv(s:ByteArray):Nat→Nat→Nat
 |_,0=>0
 |p,c+1=>hv s (p+1) c*256+byN s p
end Go.Proofs
namespace Go.Proofs
open Go Go.Lift
end Go.Proofs
namespace Go.Proofs
open Go Go.Lift
section
variable {bu:Bool} {s:SliceV} {q q':Nat→List Pr} {kk kk':Nat→Option Addr} {i:Nat}
end
end Go.Proofs
namespace Go.Proofs
open Go Go.Lift
theorem DN{W W':Nat→Prop}{h:ae}{s s':SliceV}{l:List UInt8}(g:Sl tK 1 W h s l)(c:Sl tK 1 W' h s' l)(p:l.length≤1000000000000){K:Bool→ae→Prop}(m:K true h):f5 9 [.slice s.a s.len s.cap,.slice s'.a s'.len s'.cap] K h:=by
 refine eM (H9 s s') Qo Tryz.func9 Tryz.call9 ?_;dsimp only[H9,vI,cg,ic,ji];have n:=g.len;have h2:=c.len;rw[n,h2,bne_self_eq_false];refine ay.2 ?_;refine LoopP.ghost (fun(i:Nat) (t:Int) f=>t=(i:Int)∧i≤l.length∧f=h) (fun i=>l.length-i) 0 ⟨rfl,aY _,rfl⟩ ?_
 rintro I i t f ⟨rfl,hi,rfl⟩ j;refine ak (fun b=>?_) fun _=>m
 have b:i<l.length:=by omega
 obtain⟨a,o,_,hv⟩:=g.at0 (ag b);obtain⟨a',e,_,d⟩:=c.at0 (ag b);refine⟨⟨by omega,by omega⟩,a,o,_,hv,⟨by omega,by omega⟩,a',e,_,d,?_⟩
 rw[bne_self_eq_false];refine ay.2 ?_;rw[cX b (by omega)];exact j (i+1) _ _ ⟨rfl,b,rfl⟩ (by omega)
end Go.Proofs
namespace Go.Proofs
open Go Go.Lift
def lF(n:Nat):List UInt8:=if h:n<128 then[cR n]else cR (n%128+128)::lF (n/128)
termination_by n
decreasing_by omega
theorem Cp{n:Nat}(h:n<128):lF n= [cR n]:=by rw[lF,dif_pos h]
theorem Lv{n:Nat}(h:¬n<128):lF n=cR (n%128+128)::lF (n/128):=by rw[lF,dif_neg h]
theorem ZM(m:Nat):ac .u8 ((az (aj .u8) (ac .u8 (m:Int))|||az (aj .u8) 128).toNat:Int)=((cR (m%128+128)).toNat:Int):=by
 have key:∀n:Fin 256,ac .u8 ((az (aj .u8) (n.val:Int)|||az (aj .u8) 128).toNat:Int)=((n.val%128+128:Nat):Int):=by decide+kernel
 have e:ac .u8 (m:Int)=((m%256:Nat):Int):=by rw[IntKind.wrap_u8];omega
 have k:=key ⟨m%256,Nat.mod_lt _ (by omega)⟩;rw[e,k,UInt8.toNat_ofNat_of_lt' (by show m%128+128<256;omega)];show(((m%256)%128+128:Nat):Int)=_
 congr 1
 omega
theorem Hr{W:Nat→Prop}{h:ae}{s:SliceV}{xs:List UInt8}(D:Sl tK 1 W h s xs)(hc:s.len≤s.cap)(N:xs.length≤1000000000)(n:Nat)(x:n<18446744073709551616){K:SliceV→ae→Prop}
  (w:∀f s',OwnS tK 1 5 (fun y=>h.size≤y) f s' (xs++lF n)→Upd No h f→K s' f):fU 101 [.slice s.a s.len s.cap,.int .u64 (n:Int)] K h:=by
 have q:=D.len;refine eM (Ic s (n:Int)) Qr Tryz.func101 Tryz.call101 ?_;unfold Ic;refine⟨⟨by omega,by omega⟩,⟨by omega,by omega⟩,?_⟩
 have E:=D.sub (l:=0) (hi:=xs.length) (m:=s.len) (c:=s.len-0) (aY _) (ai _) (by omega);rw[List.drop_zero,bL (by omega)]at E;have app:∀{f:ae} {ys:List UInt8} {t:SliceV} {b:UInt8} {v:Int} {K:SliceV→ae→Prop},v=(b.toNat:Int)→ys.length≤100→Upd No h f→((ys= []∧t=⟨bN s.a 0 s.len 1,s.len-0,s.len-0⟩)∨OwnS tK 1 5 (fun y=>h.size≤y) f t (xs++ys))→
   (∀s' d,OwnS tK 1 5 (fun y=>h.size≤y) d s' (xs++(ys++ [b]))→Upd No h d→K s' d)→At (hnew f [.int .u8 v] 5) (fun F=>∃xs7,SRow F (some (aJ f)) (1*1) xs7∧AppP (some [.int .u8 0]) 1 1 5 t.a t.len t.cap 1 xs7 F K):=by
  intro f ys t b v K hv j k i w;have z:=k.size;refine cP ?_;rcases i with⟨rfl,rfl⟩|i
  ·subst hv
   have k':=Upd.hnew No f [.int .u8 (b.toNat:Int)] 5;have L:OwnS tK 1 5 (fun _=>True) (hnew f [.int .u8 (b.toNat:Int)] 5) ⟨some (aJ f),1,1⟩ [b]:=⟨rfl,rx,ai _,.inr ⟨f.size,[],rfl,trivial,cO ..,rfl⟩⟩
   refine⟨_,(L.sl (W:=No) fun _ _ _ h=>h).srow,?_⟩
   have B:=(E.upd k fun _ h=>h.elim).upd k' fun _ h=>h.elim
   rw[←q]at B;refine VJ (ys:= [b]) B rfl rfl rfl (by omega) (show s.len-0<s.len-0+1 by omega) (by simp only[aI];omega) fun s' d o u=>w s' d (by simpa using o.more fun y j=>by have:=k'.size;omega) ((k.tr k').tr u)
  ·refine N9 hv i (fun y j=>by omega) (by simp only[af];omega) fun s' d o u=>w s' d (by rw[←aw];exact o) (k.trans u fun y j=>.inr j)
 have G:(2:Int)^(min (7:Int).toNat (aj .u64))=128:=by decide
 refine LoopP.ghost (fun(g:Nat×List UInt8) (t:SliceV×Int) f=>t.2=(g.1:Int)∧g.1<18446744073709551616∧g.2.length+(if g.1=0 then 0 else 1)≤20∧(g.2.length≤9∧g.1*128^g.2.length≤n)∧g.2++lF g.1=lF n∧Upd No h f∧((g.2= []∧t.1=⟨bN s.a 0 s.len 1,s.len-0,s.len-0⟩)∨OwnS tK 1 5 (fun y=>h.size≤y) f t.1 (xs++g.2))) (fun g=>g.1) (n,[]) ⟨rfl,x,by simp only[aQ];split<;>omega,by simp,rfl,Upd.refl _ _,.inl ⟨rfl,rfl⟩⟩ ?_
 rintro I ⟨m,ys⟩ ⟨t,tm⟩ f ⟨e,hm,_,⟨j,A⟩,p,k,i⟩ H;simp only at e hm j A p i;subst e;refine ak (fun c=>?_) fun c=>?_
 ·have c:¬m<128:=by have c:(m:Int)≥128:=c;omega
  rw[Lv c]at p;have J:ys.length≤8:=by
   rcases Nat.lt_or_ge 8 ys.length with C|C
   ·have:ys.length=9:=by omega
    rw[this]at A;have:128*128^9≤m*128^9:=eo _ (by omega);omega
   ·exact C
  refine Join.plain (Ky (app (ZM m) (by omega) k i fun s' d o u=>⟨by decide,?_⟩))
  show I (s',fa (m:Int) (2^(min (7:Int).toNat (aj .u64)))) d
  rw[G];refine H (m/128,ys++ [cR (m%128+128)]) _ _ ⟨by show fa (m:Int) 128=_;rw[Int.fdiv_eq_ediv_of_nonneg _ (by omega)];omega,by simp only;omega,by simp only[af,aI];split<;>omega,⟨by simp only[af,aI];omega,?_⟩,?_,u,.inr o⟩ (by simp only;omega)
  ·simp only[af,aI]
   calc m/128*128^(ys.length+1)=(m/128*128)*128^ys.length:=by rw[kh,oe,gf 128]
    _≤m*128^ys.length:=eo _ (Nat.div_mul_le_self m 128)
    _≤n:=A
  ·rw[aw];exact p
 ·have c:m<128:=by have c:¬(m:Int)≥128:=c;omega
  rw[Cp c]at p;rw[←p]at w;refine app (b:=cR m) ?_ (by omega) k i fun s' d o u=>w d s' o u
  rw[UInt8.toNat_ofNat_of_lt' (by show m<256;omega),IntKind.wrap_u8];show(m:Int)%256=_
  omega
theorem SC{W:Nat→Prop}{h:ae}{c:Nat}{s:SliceV}{xs:List UInt8}(d:h[c]? =some (.cells #[.slice s.a s.len s.cap] 140 (0,0))) (u:Sl tK 1 W h s xs) (hc:s.len≤s.cap) (p:xs.length≤1000000000) (n:Nat) (f:n<18446744073709551616) {K:Unit→ae→Prop}
  (m:∀h' s',h'[c]? =some (.cells #[.slice s'.a s'.len s'.cap] 140 (0,0))→OwnS tK 1 5 (fun y=>h.size≤y) h' s' (xs++lF n)→Upd (· =c) h h'→K () h'):eJ 56 [gF c,.int .u64 (n:Int)] K h:=by
 refine HP _ (n:Int) ?_;dsimp only[zf,Wm,dq,Aj,IV];have j:=bc d;refine⟨_,rfl,s,vc d 0,Hr u hc p n f fun v q o k1=>⟨_,rfl,nJ (b:=c) (i:=0) (k1.get0 d) (by simp) rfl fun h2 b2 g=>m h2 q b2 (o.upd g fun y w e=>by have e:y=c:=e;omega) (k1.wide.tr g)⟩⟩
end Go.Proofs
namespace Go.Proofs
open Go Go.Lift
theorem Nm:∀(p:List UInt8) (i m:Nat) {n k:Nat},i≤9→sE i m p=some (n,k)→∃v,n=m+v*128^i∧(0<i→v≠0)∧i<k∧p.take (k-i)=lF v:=by
 intro p;induction p with
 |nil=>intro i m n k _ h;cases h
 |cons b p ih=>
  intro i m n k hi h;have w:=b.toNat_lt;unfold sE at h;split at h
  ·cases h
  ·rename_i hc
   split at h
   ·rename_i h1
    cases h;refine⟨b.toNat,rfl,fun o e=>hc (.inr ⟨e,o⟩),by omega,?_⟩
    rw[Nat.add_sub_cancel_left,Cp h1];simp
   ·rename_i h1
    have u:i≠9:=fun e=>hc (.inl ⟨e,by omega⟩)
    obtain⟨v,e,hv,s,c⟩:=ih (i+1) _ (by omega) h;have hv:=hv (Nat.succ_pos _);refine⟨b.toNat-128+128*v,?_,fun _=>by omega,by omega,?_⟩
    ·rw[e,kh,Nat.add_mul,oe 128,Nat.mul_left_comm 128,gf (128^i) 128]
     rw[gf v,oe];omega
    ·obtain⟨j,rfl⟩:∃j,k=i+1+j:=⟨k-(i+1),by omega⟩
     have q:i+1+j-i=j+1:=by omega
     have d:i+1+j-(i+1)=j:=by omega
     rw[d]at c;rw[q,List.take_succ_cons,c,Lv (n:=b.toNat-128+128*v) (by omega)];have g:(b.toNat-128+128*v)/128=v:=by omega
     have f:(b.toNat-128+128*v)%128+128=b.toNat:=by omega
     rw[g,f];simp
theorem GH{s:dV}(h:(dX s).2.2=0):s.1=lF (dX s).1++(dX s).2.1:=by
 unfold dX at h⊢;split at h
 ·rename_i h0
  rw[if_pos h0];cases e:sE 0 0 s.1 with
  |none=>rw[e]at h;exact absurd (show(9:Int)=0 from h) (by decide)
  |some q=>
   obtain⟨n,k⟩:=q;obtain⟨v,b,_,_,c⟩:=Nm s.1 0 0 (by omega) e;rw[Nat.pow_zero,vx,bK]at b;subst b;simp only;rw[←c,ec,aN]
 ·rename_i h0;exact absurd h h0
theorem oA{m:Nat}{s:dV}(h:(aS m s).2.2=0):s.1=lF (aS m s).1++(aS m s).2.1:=by
 unfold aS at h⊢;split at h
 ·exact absurd h (pm (by decide) _)
 ·rename_i h1
  rw[if_neg h1];exact GH h
def vW(t:ByteArray):List UInt8:=lF t.size++t.data.toList
theorem DI{c:Nat}{b:Int}(g:b≠0){s:dV}(h:(cI c b s).2.2=0):s.1=vW (cI c b s).1++(cI c b s).2.1:=by
 unfold cI at h⊢;split at h
 ·rename_i h0
  rw[if_pos h0];cases e:sE 0 0 s.1 with
  |none=>rw[e]at h;exact absurd (show(9:Int)=0 from h) (by decide)
  |some q=>
   obtain⟨n,k⟩:=q;rw[e]at h;simp only at h⊢;split at h
   ·exact absurd h g
   ·rename_i h1
    split at h
    ·exact absurd (show(9:Int)=0 from h) (by decide)
    ·rename_i h2
     rw[if_neg h1,if_neg h2];obtain⟨v,d,_,_,f⟩:=Nm s.1 0 0 (by omega) e;rw[Nat.pow_zero,vx,bK]at d;subst d;have i:=(xk s.1 0 0 (by omega) (by simp) e).2.1;have es:(VB ((s.1.drop k).take n)).size=n:=by rw[N6,aL,aW];omega
     unfold vW;rw[es,←f,ec];show s.1=s.1.take k++(s.1.drop k).take n++s.1.drop (k+n)
     rw[aw,←List.drop_drop,aN,aN]
 ·rename_i h0;exact absurd h h0
def xJ(p:Pr):List UInt8:=vW p.1++vW p.2
theorem Pk{l:List Pr}{s:dV}(h:(fc l s).2.2=0):∃p,(fc l s).1=l++ [p]∧s.1=xJ p++(fc l s).2.1:=by
 refine⟨_,xh l s,?_⟩;have key:∀t:dV,(t=(cI 4096 3 (cI 256 2 s).2).2∨∃e:Int,e≠0∧t=cS e (cI 4096 3 (cI 256 2 s).2).2)→t.2=0→s.1=xJ ((cI 256 2 s).1,(cI 4096 3 (cI 256 2 s).2).1)++t.1:=fun t d h=>by
  rcases d with rfl|⟨e,c,rfl⟩
  ·have f:=wt (yD 4096 3 (cI 256 2 s).2) h
   have a:=DI (by decide) h;have b:=DI (by decide) f;rw[b,a];unfold xJ;simp only[aw]
  ·exact absurd h (pm c _)
 refine key _ ?_ h;unfold fc;split
 ·split
  ·exact .inl rfl
  ·exact .inr ⟨13,by decide,rfl⟩
 ·exact .inl rfl
theorem GG:∀(n:Nat) {l:List Pr} {s:dV},(jc n l s).2.2=0→∃m,(jc n l s).1=l++m∧m.length=n∧s.1=m.flatMap xJ++(jc n l s).2.1
 |0,l,s,_=>⟨[],by simp[jc],rfl,rfl⟩
 |n+1,l,s,h=>by
  have f:s.2=0:=by
   unfold jc at h;split at h
   ·assumption
   ·exact h
  rw[jc,if_pos f]at h⊢;obtain⟨m,g,b,d⟩:=GG n h;obtain⟨p,c,e⟩:=Pk (wt (vZ _ _ _) h);refine⟨p::m,by rw[g,c,aw];rfl,by rw[av,b],?_⟩
  rw[e,aZ,aw,←d]
def tD(l:List Pr):List UInt8:=lF l.length++l.flatMap xJ
theorem JN{s:dV}(h:(fj s).2.2=0):s.1=tD (fj s).1++(fj s).2.1:=by
 unfold fj at h⊢;obtain⟨m,b,d,c⟩:=GG _ h;have a:=GH (wt (vZ _ _ _) h);rw[bZ]at b;unfold tD;rw[b,d,aw,←c];exact a
theorem GC{α:Type}{f:dV→α×dV}{w:α→List UInt8}{Q:α→Prop}(c:∀s,Go1 s (f s).2)(d:∀s,(f s).2.2=0→s.1=w (f s).1++(f s).2.1∧Q (f s).1):∀(n:Nat) {l:List α} {s:dV},(jt f n l s).2.2=0→∃m,(jt f n l s).1=l++m∧m.length=n∧s.1=m.flatMap w++(jt f n l s).2.1∧∀a∈m,Q a
 |0,l,s,_=>⟨[],by simp[jt],rfl,rfl,fun _ h=>(by cases h)⟩
 |n+1,l,s,h=>by
  have p:s.2=0:=by
   unfold jt at h;split at h
   ·assumption
   ·exact h
  rw[jt,if_pos p]at h⊢;obtain⟨m,q,e,j,g⟩:=GC c d n h;obtain⟨o,i⟩:=d s (wt (zN c _ _ _) h);refine⟨(f s).1::m,by rw[q,aw];rfl,by rw[av,e],?_,fun a b=>?_⟩
  ·rw[o,aZ,aw,←j]
  ·rcases ar.1 b with rfl|b
   ·exact i
   ·exact g a b
def pO{α:Type}(w:α→List UInt8)(l:List α):List UInt8:=lF l.length++l.flatMap w
theorem Ce{α:Type}{f:dV→α×dV}{w:α→List UInt8}{Q:α→Prop}(b:∀s,Go1 s (f s).2)(g:∀s,(f s).2.2=0→s.1=w (f s).1++(f s).2.1∧Q (f s).1){s:dV}(h:(jd f s).2.2=0):s.1=pO w (jd f s).1++(jd f s).2.1∧∀a∈(jd f s).1,Q a:=by
 unfold jd at h⊢;obtain⟨m,c,d,i,e⟩:=GC b g _ h;have a:=GH (wt (zN b _ _ _) h);rw[bZ]at c;rw[c];refine⟨?_,e⟩;unfold pO;rw[d,aw,←i];exact a
theorem GK:∀(n:Nat) {l:List Int} {s:dV},(ph n l s).2.2=0→∃m:List Int,(ph n l s).1=l++m∧m.length=n∧s.1=(m.flatMap fun i=>lF i.toNat)++(ph n l s).2.1∧∀i∈m,0≤i∧i≤4294967295
 |0,l,s,_=>⟨[],by simp[ph],rfl,rfl,fun _ h=>(by cases h)⟩
 |n+1,l,s,h=>by
  unfold ph at h⊢;obtain⟨m,f,b,d,c⟩:=GK n h;have e:=oA (wt (Cd _ _ _) h);have g:=fK 4294967295 s;refine⟨((aS 4294967295 s).1:Int)::m,by rw[f,aw];rfl,by rw[av,b],?_,fun i hi=>?_⟩
  ·rw[e,aZ,aw,←d];rfl
  ·rcases ar.1 hi with rfl|hi
   ·omega
   ·exact c i hi
def Af(v:tL):List UInt8:=lF v.1.toNat++(pO (fun i:Int=>lF i.toNat) v.2.1++tD v.2.2)
def ul(v:ByteArray×Int):List UInt8:=vW v.1++lF v.2.toNat
def yk(v:Int×Bool×List Pr):List UInt8:=lF v.1.toNat++((if v.2.1 then 1 else 0)::tD v.2.2)
theorem Ug{s:dV}(h:(nT s).2.2=0):s.1=Af (nT s).1++(nT s).2.1:=by
 have d:(fj (ph (aS 2 (aS 4294967295 s).2).1 [] (aS 2 (aS 4294967295 s).2).2).2).2.2=0:=h;have h2:=wt (tq _) d;have e:=wt (Cd _ _ _) h2;have j:=wt (dW _ _) e;obtain⟨m,f,g,i,_⟩:=GK _ h2;rw[bZ]at f;have a:=oA j;have b:=oA e;have c:=JN d;show s.1=Af (((aS 4294967295 s).1:Int),(ph (aS 2 (aS 4294967295 s).2).1 [] (aS 2 (aS 4294967295 s).2).2).1,(fj (ph (aS 2 (aS 4294967295 s).2).1 [] (aS 2 (aS 4294967295 s).2).2).2).1)++(fj (ph (aS 2 (aS 4294967295 s).2).1 [] (aS 2 (aS 4294967295 s).2).2).2).2.1
 unfold Af pO;simp only;rw[f,g];simp only[aw];rw[←c,←i,←b];exact a
theorem M4{s:dV}(h:(f7 s).2.2=0):s.1=ul (f7 s).1++(f7 s).2.1:=by
 have c:(aS 4294967295 (cI 32 9 s).2).2.2=0:=h;have a:=DI (by decide) (wt (dW _ _) c);have b:=oA c;show s.1=ul ((cI 32 9 s).1,((aS 4294967295 (cI 32 9 s).2).1:Int))++(aS 4294967295 (cI 32 9 s).2).2.1
 unfold ul;simp only[aw];have e:(((aS 4294967295 (cI 32 9 s).2).1:Int)).toNat=(aS 4294967295 (cI 32 9 s).2).1:=rfl;rw[e,←b];exact a
theorem DL{s:dV}(h:(aP s).2.2=0):s.1=cR (aP s).1::(aP s).2.1:=by
 unfold aP fH at h⊢;split at h
 ·rename_i h0
  rw[if_pos h0];split at h
  ·exact absurd (show(9:Int)=0 from h) (by decide)
  ·rename_i h1
   rw[if_neg h1];cases e:s.1 with
   |nil=>rw[e]at h1;exact absurd (Nat.zero_lt_one) h1
   |cons b p=>simp
 ·rename_i h0;exact absurd h h0
theorem Pp{s:dV}(h:(ig s).2.2=0):(ig s).1≤1∧s.1=cR (ig s).1::(ig s).2.1:=by
 have e:(ig s)=((aP s).1,if 1<(aP s).1 then cS 9 (aP s).2 else(aP s).2):=rfl
 rw[e]at h⊢;simp only at h⊢;split at h
 ·exact absurd h (pm (by decide) _)
 ·rename_i c
  rw[if_neg c];exact⟨by omega,DL h⟩
theorem Uh{s:dV}(h:(oB s).2.2=0):s.1=yk (oB s).1++(oB s).2.1:=by
 have h2:(fj (ig (aS 2147483648 s).2).2).2.2=0:=h;have d:=wt (tq _) h2;have f:=wt (zQ _) d;have a:=oA f;obtain⟨g,b⟩:=Pp d;have c:=JN h2;show s.1=yk (((aS 2147483648 s).1:Int),decide ((ig (aS 2147483648 s).2).1=1),(fj (ig (aS 2147483648 s).2).2).1)++(fj (ig (aS 2147483648 s).2).2).2.1
 have e:cR (ig (aS 2147483648 s).2).1=if(decide ((ig (aS 2147483648 s).2).1=1):Bool)then 1 else 0:=by
  rcases(show(ig (aS 2147483648 s).2).1=0∨(ig (aS 2147483648 s).2).1=1 by omega)with e|e<;>rw[e]<;>rfl
 unfold yk;simp only[aw,dF];rw[←e,←c,←b];exact a
end Go.Proofs
namespace Go.Proofs
open Go Go.Lift
theorem NB:∀l:List UInt8,yH (sJ l) l.length=l
 | []=>rfl
 |b::l=>by
  have c:=b.toNat_lt;have i:=NB l;unfold yH at i⊢;rw[av,List.range_succ_eq_map,List.map_cons,List.map_map];refine congr (congrArg List.cons ?_) (Eq.trans (List.map_congr_left fun j _=>?_) i)
  ·show cR ((b.toNat+256*sJ l)>>>0)=b
   apply UInt8.toNat_inj.1;rw[Nat.shiftRight_zero,UInt8.toNat_ofNat'];omega
  ·show cR ((b.toNat+256*sJ l)>>>(8*(j+1)))=cR (sJ l>>>(8*j))
   congr 1
   rw[show 8*(j+1)=8+8*j by omega,Nat.shiftRight_add]
   congr 1
   rw[Nat.shiftRight_eq_div_pow];omega
theorem GL{s:dV}(h:(f8 s).2.2=0):s.1=yH (f8 s).1 8++(f8 s).2.1∧(f8 s).1<18446744073709551616:=by
 unfold f8 fH at h⊢;split at h
 ·rename_i h0
  rw[if_pos h0];split at h
  ·exact absurd (show(9:Int)=0 from h) (by decide)
  ·rename_i h1
   rw[if_neg h1];have c:(s.1.take 8).length=8:=by rw[aL];omega
   have e:=NB (s.1.take 8);have b:=CC (s.1.take 8);rw[c]at e b;refine⟨?_,b⟩;show s.1=yH (sJ (s.1.take 8)) 8++s.1.drop 8
   rw[e,aN]
 ·rename_i h0;exact absurd h h0
def NC(k:Int)(x:Hs):List UInt8:=81::cR k.toNat::if k=0 then yH x.k0.toNat 8++(yH x.k1.toNat 8++yH x.mask.toNat 8)else[]
theorem Su{s:dV}(h:(jW s).2.2=0):s.1=NC (jW s).1.1 (jW s).1.2++(jW s).2.1∧(((jW s).1.1=0∧(0≤(jW s).1.2.k0∧(jW s).1.2.k0<18446744073709551616)∧(0≤(jW s).1.2.k1∧(jW s).1.2.k1<18446744073709551616)∧(0≤(jW s).1.2.mask∧(jW s).1.2.mask<18446744073709551616))∨((jW s).1.1=1∧(jW s).1.2=⟨0,0,0⟩)):=by
 have i:jW s=(if(aP (if(aP s).1=81 then(aP s).2 else cS 9 (aP s).2)).1=0 then
   ((0,⟨(f8 (aP (if(aP s).1=81 then(aP s).2 else cS 9 (aP s).2)).2).1,(f8 (f8 (aP (if(aP s).1=81 then(aP s).2 else cS 9 (aP s).2)).2).2).1,(f8 (f8 (f8 (aP (if(aP s).1=81 then(aP s).2 else cS 9 (aP s).2)).2).2).2).1⟩),(f8 (f8 (f8 (aP (if(aP s).1=81 then(aP s).2 else cS 9 (aP s).2)).2).2).2).2)
   else if(aP (if(aP s).1=81 then(aP s).2 else cS 9 (aP s).2)).1=1 then((1,⟨0,0,0⟩),(aP (if(aP s).1=81 then(aP s).2 else cS 9 (aP s).2)).2)else(((aP (if(aP s).1=81 then(aP s).2 else cS 9 (aP s).2)).1,⟨0,0,0⟩),cS 11 (aP (if(aP s).1=81 then(aP s).2 else cS 9 (aP s).2)).2)):=rfl
 rw[i]at h⊢;have d:∀{t:dV},t=(if(aP s).1=81 then(aP s).2 else cS 9 (aP s).2)→t.2=0→s.1=81::t.1:=fun{t} p b=>by
  subst p;split at b
  ·rename_i e
   rw[if_pos e];have:=DL b;rw[e]at this;exact this
  ·exact absurd b (pm (by decide) _)
 generalize (if(aP s).1=81 then(aP s).2 else cS 9 (aP s).2)=s1 at*
 have d:=fun b=>d (t:=s1) rfl b
 generalize eb:aP s1=k at*;have h2:k.2.2=0→s1.1=cR k.1::k.2.1∧s1.2=0:=fun n=>by
  subst eb;exact⟨DL n,wt (wd s1) n⟩
 clear eb i;split at h
 ·rename_i e0
  rw[if_pos e0];have c:(f8 (f8 (f8 k.2).2).2).2.2=0:=h;have m:=wt (zP _) c;have j:=wt (zP _) m;have q:=wt (zP _) j;obtain⟨o,u⟩:=GL c;obtain⟨b1,b2⟩:=GL m;obtain⟨c1,v⟩:=GL j;obtain⟨g,f⟩:=h2 q;refine⟨?_,.inl ⟨rfl,by simp only;omega,by simp only;omega,by simp only;omega⟩⟩
  rw[d f,g,c1,b1,o,e0];unfold NC;simp only[dF,bQ];rfl
 ·rename_i e0
  rw[if_neg e0];split at h
  ·rename_i e1
   rw[if_pos e1];have c:k.2.2=0:=h;obtain⟨g,f⟩:=h2 c;refine⟨?_,.inr ⟨rfl,rfl⟩⟩;rw[d f,g,e1];rfl
  ·exact absurd h (pm (by decide) _)
theorem JQ:∀(n:Nat) {l:List Pr} {s:dV},fE l→Fit l→(jc n l s).2.2=0→fE (jc n l s).1∧Fit (jc n l s).1
 |0,l,s,hr,hf,_=>⟨hr,hf⟩
 |n+1,l,s,hr,hf,h=>by
  by_cases f:s.2=0
  ·rw[jc,if_pos f]at h⊢
   have d:=wt (vZ _ _ _) h;have key:fE (fc l s).1∧Fit (fc l s).1:=by
    have a:=tw 256 2 s;have b:=tw 4096 3 (cI 256 2 s).2;unfold fc at d⊢;refine⟨bW.2 ⟨hr,List.pairwise_singleton ..,fun p c q i=>?_⟩,fun p c=>?_⟩
    ·rw[aq.1 i]
     cases e:l.getLast? with
     |none=>rw[List.getLast?_eq_none_iff.1 e]at c;cases c
     |some q=>
      rw[e]at d;simp only at d;have g:kl q.1 (cI 256 2 s).1:=by
       split at d
       ·assumption
       ·exact absurd d (pm (by decide) _)
      obtain⟨m,rfl⟩:=List.getLast?_eq_some_iff.1 e;rcases be.1 c with c|c
      ·exact ii ((bW.1 hr).2.2 p c q (aq.2 rfl)) g
      ·rw[aq.1 c];exact g
    ·rcases be.1 c with c|c
     ·exact hf p c
     ·rw[aq.1 c];simp only;omega
   exact JQ n key.1 key.2 h
  ·rw[jc,if_neg f]at h⊢
   exact⟨hr,hf⟩
theorem M0{s:dV}(h:(fj s).2.2=0):fE (fj s).1∧Fit (fj s).1:=JQ _ dh (fun _ h=>by cases h) h
def XH(v:tL):Prop:=(0≤v.1∧v.1≤4294967295)∧(v.2.1.length≤2∧∀i∈v.2.1,0≤i∧i≤4294967295)∧fE v.2.2∧Fit v.2.2
def VU(v:ByteArray×Int):Prop:=v.1.size≤32∧0≤v.2∧v.2≤4294967295
def XI(v:Int×Bool×List Pr):Prop:=(0≤v.1∧v.1≤2147483648)∧fE v.2.2∧Fit v.2.2
theorem WI{s:dV}(h:(nT s).2.2=0):XH (nT s).1:=by
 have d:(fj (ph (aS 2 (aS 4294967295 s).2).1 [] (aS 2 (aS 4294967295 s).2).2).2).2.2=0:=h;obtain⟨m,c,f,_,e⟩:=GK _ (wt (tq _) d);have a:=fK 4294967295 s;have b:=fK 2 (aS 4294967295 s).2;rw[bZ]at c;refine⟨⟨?_,?_⟩,⟨?_,?_⟩,M0 d⟩
 ·exact gX _
 ·exact sW (sS.2 a) (by decide)
 ·show(ph (aS 2 (aS 4294967295 s).2).1 [] (aS 2 (aS 4294967295 s).2).2).1.length≤2;rw[c,f];exact b
 ·show∀i∈(ph (aS 2 (aS 4294967295 s).2).1 [] (aS 2 (aS 4294967295 s).2).2).1,_;rw[c];exact e
theorem QJ(s:dV):VU (f7 s).1:=by
 have a:=tw 32 9 s;have b:=fK 4294967295 (cI 32 9 s).2;exact⟨a,gX _,sW (sS.2 b) (by decide)⟩
theorem WJ{s:dV}(h:(oB s).2.2=0):XI (oB s).1:=by
 have h2:(fj (ig (aS 2147483648 s).2).2).2.2=0:=h;have a:=fK 2147483648 s;exact⟨⟨gX _,sW (sS.2 a) (by decide)⟩,M0 h2⟩
def lZ(p:RParts):List UInt8:=NC p.kind p.x++(lF p.next.toNat++(pO Af p.vs++(pO ul p.bs++(pO ul p.ts++(lF p.last.toNat++pO yk p.ss)))))
structure PtsI(p:RParts):Prop where
 k:(p.kind=0∧(0≤p.x.k0∧p.x.k0<18446744073709551616)∧(0≤p.x.k1∧p.x.k1<18446744073709551616)∧(0≤p.x.mask∧p.x.mask<18446744073709551616))∨(p.kind=1∧p.x=⟨0,0,0⟩)
 n:0≤p.next∧p.next≤4294967295
 v:∀v∈p.vs,XH v
 b:∀v∈p.bs,VU v
 t:∀v∈p.ts,VU v
 l:0≤p.last∧p.last≤2147483648
 s:∀v∈p.ss,XI v
theorem JP{s:dV}(h:(tA s).2.2=0):s.1=lZ (tA s).1∧PtsI (tA s).1:=by
 obtain⟨K,p⟩:∃K,K=jW s:=⟨_,rfl⟩;obtain⟨N,i⟩:∃N,N=aS 4294967295 K.2:=⟨_,rfl⟩;obtain⟨V,f⟩:∃V,V=jd nT N.2:=⟨_,rfl⟩;obtain⟨B,j⟩:∃B,B=jd f7 V.2:=⟨_,rfl⟩;obtain⟨T,q⟩:∃T,T=jd f7 B.2:=⟨_,rfl⟩;obtain⟨L,g⟩:∃L,L=aS 2147483648 T.2:=⟨_,rfl⟩;obtain⟨Z,o⟩:∃Z,Z=jd oB L.2:=⟨_,rfl⟩;have e:tA s=(⟨K.1.1,K.1.2,N.1,V.1,B.1,T.1,L.1,Z.1⟩,xi Z.2):=by subst o g q j f i p;exact GF s
 rw[e]at h⊢;have c:Z.2.2=0∧Z.2.1= []:=by
  have h:(xi Z.2).2=0:=h;unfold xi at h;split at h
  ·exact absurd h (pm (by decide) _)
  ·rename_i d
   exact⟨h,List.length_eq_zero_iff.1 (Nat.eq_zero_of_not_pos d)⟩
 obtain⟨c,ez⟩:=c;have y:=m0 Cc L.2;have P:=dW 2147483648 T.2;have A:=m0 lf B.2;have I:=m0 lf V.2;have J:=m0 ur N.2;have G:=dW 4294967295 K.2;have H:=Ce (w:=yk) (Q:=XI) Cc (fun s b=>⟨Uh b,WJ b⟩) (s:=L.2)
 have u:=oA (m:=2147483648) (s:=T.2);have v:=Ce (w:=ul) (Q:=VU) lf (fun s b=>⟨M4 b,QJ s⟩) (s:=B.2)
 have C:=Ce (w:=ul) (Q:=VU) lf (fun s b=>⟨M4 b,QJ s⟩) (s:=V.2)
 have iV:=Ce (w:=Af) (Q:=XH) ur (fun s b=>⟨Ug b,WI b⟩) (s:=N.2)
 have D:=oA (m:=4294967295) (s:=K.2);have E:=Su (s:=s);have U:=fK 4294967295 K.2;have R:=fK 2147483648 T.2;rw[←o]at y H;rw[←g]at P u R;rw[←q]at A v;rw[←j]at I C;rw[←f]at J iV;rw[←i]at G D U;rw[←p]at E;clear e o g q j f i p;have z:=wt y c;have O:=wt P z;have S:=wt A O;have hv:=wt I S;have d:=wt J hv;have hk:=wt G d;obtain⟨F,Y⟩:=H c
 have X:=u z;obtain⟨t1,t2⟩:=v O;obtain⟨b1,b2⟩:=C S;obtain⟨v1,v2⟩:=iV hv;have n1:=D d;obtain⟨k1,W⟩:=E hk;refine⟨?_,⟨?_,⟨gX _,sW (sS.2 U) (by decide)⟩,v2,b2,t2,⟨gX _,sW (sS.2 R) (by decide)⟩,Y⟩⟩
 ·unfold lZ
  simp only[bQ];rw[ez,List.append_nil]at F;rw[←F,←X,←t1,←b1,←v1,←n1];exact k1
 ·rcases W with⟨e,x⟩|⟨e,x⟩
  ·exact .inl ⟨congrArg (fun n:Nat=>(n:Int)) e,x⟩
  ·exact .inr ⟨congrArg (fun n:Nat=>(n:Int)) e,x⟩
end Go.Proofs
namespace Go.Proofs
open Go.Lift
abbrev vf(v:Int×SliceV):List Value:= [.int .u32 v.1,sv v.2]
theorem TI(v:Int×SliceV):(vf v).length=2∧0<2:=⟨rfl,by omega⟩
def Par(W:Nat→Prop)(h:ae):List (Int×SliceV)→dI→Prop
 | [],[]=>True
 |v::l,u::m=>v.1=u.1∧Nums W h v.2 u.2∧Par W h l m
 |_,_=>False
theorem Par.len{W:Nat→Prop}{h:ae}:∀{l:List (Int×SliceV)} {m:dI},Par W h l m→l.length=m.length
 | [],[],_=>rfl
 |_::_,_::_,p=>congrArg (· +1) p.2.2.len
 | [],_::_,p=>p.elim
 |_::_,[],p=>p.elim
theorem Par.get{W:Nat→Prop}{h:ae}:∀{l:List (Int×SliceV)} {m:dI},Par W h l m→∀{i:Nat} (hl:i<l.length) (hm:i<m.length),l[i].1=m[i].1∧Nums W h l[i].2 m[i].2
 |v::l,u::m,p,0,_,_=>⟨p.1,p.2.1⟩
 |v::l,u::m,p,i+1,hl,hm=>p.2.2.get (by simpa using hl) (by simpa using hm)
theorem Par.app{W:Nat→Prop}{h:ae}:∀{l l':List (Int×SliceV)} {m m':dI},Par W h l m→Par W h l' m'→Par W h (l++l') (m++m')
 | [],_,[],_,_,q=>q
 |_::_,_,_::_,_,p,q=>⟨p.1,p.2.1,p.2.2.app q⟩
 | [],_,_::_,_,p,_=>p.elim
 |_::_,_,[],_,p,_=>p.elim
theorem Par.take{W:Nat→Prop}{h:ae}:∀{l:List (Int×SliceV)} {m:dI},Par W h l m→∀i,Par W h (l.take i) (m.take i)
 | [],[],_,i=>by simp[Par]
 |_::_,_::_,_,0=>trivial
 |_::_,_::_,p,i+1=>⟨p.1,p.2.1,p.2.2.take i⟩
 | [],_::_,p,_=>p.elim
 |_::_,[],p,_=>p.elim
theorem Par.drop{W:Nat→Prop}{h:ae}:∀{l:List (Int×SliceV)} {m:dI},Par W h l m→∀i,Par W h (l.drop i) (m.drop i)
 | [],[],_,i=>by simp[Par]
 |_::_,_::_,p,0=>p
 |_::_,_::_,p,i+1=>p.2.2.drop i
 | [],_::_,p,_=>p.elim
 |_::_,[],p,_=>p.elim
theorem Par.upd{W M:Nat→Prop}{h c:ae}(k:Upd M h c)(hm:∀b,M b→W b∨h.size≤b):∀{l:List (Int×SliceV)} {m:dI},Par W h l m→Par W c l m
 | [],[],_=>trivial
 |_::_,_::_,p=>⟨p.1,p.2.1.upd k hm,Par.upd k hm p.2.2⟩
 | [],_::_,p=>p.elim
 |_::_,[],p=>p.elim
structure RefAt(W:Nat→Prop)(h:ae)(xp:Nat)(L:dI)(nx:Int):Prop where
 blk:∃s t Ls,h[xp]? =some (.cells #[sv s,.int .u32 nx] t (0,0))∧Sl vf 2 W h s Ls∧Par W h Ls L∧s.len≤s.cap
 wp:W xp
 lt:∀b,W b→b<h.size
theorem RefAt.upd{W M:Nat→Prop}{h f:ae}{c:Nat}{L:dI}{nx:Int}(g:RefAt W h c L nx)(k:Upd M h f)(hm:∀b,M b→(W b∧b≠c)∨h.size≤b):RefAt W f c L nx:=by
 obtain⟨s,t,Ls,n,h2,j,m⟩:=g.blk;have o:¬M c:=fun e=>(hm _ e).elim (fun e=>e.2 rfl) fun e=>absurd (g.lt _ g.wp) (Nat.not_lt.2 e)
 have i:∀b,M b→W b∨h.size≤b:=fun b d=>(hm b d).imp (·.1) id
 exact⟨⟨s,t,Ls,k.get n o,h2.upd k i,Par.upd k i j,m⟩,g.wp,fun b d=>aC (g.lt b d) k.size⟩
theorem RefAt.upd0{W:Nat→Prop}{h c:ae}{b:Nat}{L:dI}{nx:Int}(g:RefAt W h b L nx)(k:Upd No h c):RefAt W c b L nx:=g.upd k fun _ h=>h.elim
theorem TJ{W:Nat→Prop}{h:ae}{s:SliceV}{Ls:List (Int×SliceV)}(b:Sl vf 2 W h s Ls){i:Nat}(hi:i<Ls.length):
  ∃a,s.a=some a∧bh h (adr (adr a (((i:Int)).toNat*2)) 0)=some (.int .u32 Ls[i].1)∧bh h (adr (adr a (((i:Int)).toNat*2)) 1)=some (.slice Ls[i].2.a Ls[i].2.len Ls[i].2.cap):=by
 obtain⟨a,c,_,hv⟩:=b.at (ag hi);exact⟨a,c,hv 0 _ rfl,hv 1 _ rfl⟩
theorem Yr(h:ae)(t:TypeId)(a b:Value)(v:Int×SliceV):xw (hnew h [a,b] t) (some (aJ h)) 0 [.int .u32 v.1,.slice v.2.a v.2.len v.2.cap]∧
  (iw (hnew h [a,b] t) (aJ h) 0 [.int .u32 v.1,.slice v.2.a v.2.len v.2.cap])[h.size]? =some (.cells #[.int .u32 v.1,.slice v.2.a v.2.len v.2.cap] t (0,0))∧
  Upd No h (iw (hnew h [a,b] t) (aJ h) 0 [.int .u32 v.1,.slice v.2.a v.2.len v.2.cap]):=by
 have c:=cO h [a,b] t;refine⟨.inr ⟨_,rfl,fun j d=>?_⟩,?_,?_⟩
 ·rw[dA,cM]
  exact fz c (by simp at d⊢;omega)
 ·rw[dA,gQ _ _ 0 0 [a,b] c (by simp),dU c];rfl
 ·rw[dA,gQ _ _ 0 0 [a,b] c (by simp)]
  exact(Upd.hnew No h [a,b] t).trans (M':=(· =h.size)) (Upd.set _ _ rfl) fun b c=>.inr (Nat.le_of_eq c.symm)
theorem BO{W:Nat→Prop}{h:ae}{v:Nat}{L:dI}{nx:Int}(g:RefAt W h v L nx)(C:L.length≤4611686018427387904)(id:Int)
  {K:Int→ae→Prop}(w:∀(n:Int) d,Upd No h d→(n≥0↔id∈ids L)→K n d):iI 54 [gF v,.int .u32 id] K h:=by
 refine eM (H5 (some ⟨v,0,none⟩) id) Qn Tryz.func54 Tryz.call54 ?_;dsimp only[H5,du,nv,Rm,Wn,ic,ji,iP,cf,dq,IW,eS];obtain⟨s,t,Ls,E,h2,p,_⟩:=g.blk;refine⟨_,rfl,s,by rw[cM,bO E];rfl,?_⟩
 have f:=p.len;refine LoopP.ghost (fun(i:Nat) (t:Int) d=>t=(i:Int)∧Upd No h d∧i≤L.length∧id∉(ids L).take i) (fun i=>L.length-i) 0 ⟨rfl,Upd.refl _ _,aY _,by simp⟩ ?_
 rintro I i t d ⟨rfl,j,hi,u⟩ z;have o:=h2.upd j fun _ h=>h.elim
 have A:=Par.upd j (fun _ h=>h.elim) p
 refine ak (fun b=>?_) fun m=>?_
 ·rw[h2.len,f]at b
  have b:i<L.length:=by omega
  obtain⟨a,y,c0,c1⟩:=TJ o (f▸b);obtain⟨D,B,x⟩:=Yr d 199 (.int .u32 0) (.slice none 0 0) (Ls[i]'(f▸b));refine⟨by rw[h2.len,f];omega,a,y,_,c0,_,c1,D,_,Hc B 0,?_⟩;have e:=(p.get (f▸b) b).1;refine CondP.intro (fun q=>?_) fun c=>?_
  ·have q:L[i].1=id:=by rw[←e];simpa using q
   exact w _ _ (j.tr x) ⟨fun _=>List.mem_map.2 ⟨_,bR b,q⟩,fun _=>by omega⟩
  ·have c:L[i].1≠id:=by rw[←e];simpa using c
   rw[cX b C];refine z (i+1) _ _ ⟨rfl,j.tr x,b,?_⟩ (by omega);rw[bd (by simpa using b),be,aq,not_or];exact⟨u,by rw[List.getElem_map];exact Ne.symm c⟩
 ·rw[h2.len,f]at m
  have:i=L.length:=by omega
  rw[bL (by simp[this])]at u;exact w _ _ j ⟨fun h=>by omega,fun h=>absurd h u⟩
theorem We{W:Nat→Prop}{h:ae}{s:SliceV}{ps:List Int}(d:Nums W h s ps){K:Int→ae→Prop}(c:K (sF ps) h):
  iI 98 [.slice s.a s.len s.cap] K h:=by
 refine eM (KK s) Ts Tryz.func98 Tryz.call98 ?_;dsimp only[KK,cg,ji,yU];refine Join.plain (ak (fun m=>?_) fun g=>CondP.intro (fun f=>?_) fun b=>?_)
 ·rw[d.len]at m
  rw[show sF ps=1 from if_pos (.inl (by omega))]at c
  exact aV.2 c
 ·rw[d.len]at f
  have f:ps.length=2:=by
   have:(ps.length:Int)=2:=by simpa using f
   omega
  obtain⟨a,o,_,hx⟩:=Nums.at d (i:=0) (by omega);obtain⟨a',n,_,p⟩:=Nums.at d (i:=1) (by omega);refine⟨by rw[d.len];omega,a,o,_,hx,by rw[d.len];omega,a',n,_,p,?_⟩
  have e:sF ps=if(ps[0]==ps[1])=true then 1 else 0:=by
   match ps,f with
   | [x,y],_=>simp[sF,aad]
  rw[e]at c;exact CondP.intro (fun j=>by rw[if_pos j]at c;exact c) fun j=>by rw[if_neg (by rw[j];decide)]at c;exact c
 ·rw[d.len]at g b
  have b:ps.length≠2:=fun e=>by rw[e]at b;exact absurd b (by decide)
  have hd:aad ps=false:=by
   match ps,b with
   | [],_=>rfl
   | [_],_=>rfl
   | [_,_],h=>exact absurd rfl h
   |_::_::_::_,_=>rfl
  rw[show sF ps=0 from if_neg (by rw[hd];simp;omega)]at c
  exact ay.2 c
theorem Rp{W:Nat→Prop}{h:ae}{A:Nat}{L:dI}{nx:Int}(g:RefAt W h A L nx)(G:L.length≤4611686018427387904){s:SliceV}{ps:List Int}(v:Nums W h s ps)(E:ps.length≤4611686018427387904)
  {K:Int→ae→Prop}(o:∀j,Upd No h j→K (oO L ps) j):iI 99 [gF A,.slice s.a s.len s.cap] K h:=by
 refine eM (E9 (some ⟨A,0,none⟩) s) Ov Tryz.func99 Tryz.call99 ?_;dsimp only[E9,uk,iP,cf,dq,Eb,cg,ic,ji];refine LoopP.ghost (fun(i:Nat) (t:Int) j=>t=(i:Int)∧Upd No h j∧i≤ps.length∧∀p∈ps.take i,p∈ids L) (fun i=>ps.length-i) 0 ⟨rfl,Upd.refl _ _,aY _,by simp⟩ ?_
 rintro I i t j ⟨rfl,m,hi,z⟩ D;have x:Nums W j s ps:=v.upd m fun _ h=>h.elim
 have B:=g.upd0 m;refine ak (fun b=>?_) fun w=>?_
 ·rw[v.len]at b
  have b:i<ps.length:=by omega
  obtain⟨a,C,_,hx⟩:=Nums.at x b;refine⟨by rw[v.len];omega,a,C,_,hx,BO B G _ fun n h2 q u=>ak (fun y=>?_) fun y=>?_⟩
  ·have c:ps[i]∉ids L:=fun hm=>by have:=u.2 hm;omega
   rw[show oO L ps=4 from if_pos (dZ.2 ⟨_,bR b,by simpa using c⟩)]at o
   exact o _ (m.tr q)
  ·rw[cX b E]
   refine D (i+1) _ _ ⟨rfl,m.tr q,b,?_⟩ (by omega);rw[bd b];intro p d;rcases be.1 d with f|f
   ·exact z p f
   ·rw[aq.1 f];exact u.1 (by omega)
 ·rw[v.len]at w
  have:i=ps.length:=by omega
  subst this;rw[List.take_length]at z;have c:¬(ps.any (fun p=> !decide (p∈ids L)))=true:=fun e=>by
   obtain⟨p,d,f⟩:=dZ.1 e;simp[z p d]at f
  obtain⟨s',t,Ls,F,h2,y,_⟩:=B.blk;refine⟨_,rfl,s',by rw[cM,bO F];rfl,?_⟩
  rw[h2.len,y.len];refine ak (fun f=>?_) fun f=>?_
  ·rw[show oO L ps=6 from(if_neg c).trans (if_pos (by omega))]at o
   exact o _ m
  ·rw[show oO L ps=0 from(if_neg c).trans (if_neg (by omega))]at o
   exact o _ m
end Go.Proofs
