/- A part of the proof that the named laws of this program answer true, whatever the input. -/
import Derived.Test.YtceikogjngfacaaGreatPart9
import Derived.Test.YtceikogjngfacaaGreatPart0
import Derived.Test.YtceikogjngfacaaGreatPart2
import Derived.Test.YtceikogjngfacaaGreatPart1
import Derived.Test.YtceikogjngfacaaGreatPart5
open BitVec renaming ofInt→ao
open Bool renaming false_eq_true→ce
open Go.IntKind renaming wrap→ac,bits→ai
open Int renaming fdiv→dI
open List renaming length_drop→aP,length_nil→aM,mem_of_getElem?→ak,nodup_nil→fk,getElem?_eq_getElem→aj,drop_zero→dH,length_singleton→aQ,length_append→ae,append_assoc→aF,getD_eq_getElem?_getD→nD,getElem?_drop→pX,length_take→aO,drop_eq_nil_of_le→fy,drop_eq_getElem_cons→dL,drop_drop→cS,mem_cons_of_mem→aR
open List.Pairwise renaming nil→fG
open Nat renaming le_refl→aq,zero_le→bJ,lt_of_lt_of_le→aG,lt_irrefl→jo,mul_le_mul_right→dD,succ_pos→xU,zero_add→bi
open UInt8 renaming ofNat→fj
namespace Go.Proofs
open Go Go.Lift
abbrev qK(s:eK):=vw s
abbrev qN(s:eK):=bd 4294967295 (qK s).2
abbrev qV(s:eK):=lw sr (qN s).2
abbrev qB(s:eK):=lw im (qV s).2
abbrev qT(s:eK):=lw im (qB s).2
abbrev qL(s:eK):=bd 2147483648 (qT s).2
abbrev qZ(s:eK):=lw sR (qL s).2
theorem KB(s:eK):Ay s=(⟨(qK s).1.1,(qK s).1.2,(qN s).1,(qV s).1,(qB s).1,(qT s).1,(qL s).1,(qZ s).1⟩,Ai (qZ s).2):=rfl
theorem yH(s:eK):Go1 s (aS s).2:=Fx 1 s
theorem Jg(s:eK):Go1 s (kK s).2:=Fx 8 s
theorem KG{e:Int}(b:e≠0)(s:eK):(dA e s).2≠0:=by
 unfold dA;split
 ·exact b
 ·assumption
theorem H5(s:eK):Go1 s (vw s).2∧((vw s).2.2=0→((vw s).1.1:Int)=0∨((vw s).1.1:Int)=1):=by
 have c:Go1 s (if(aS s).1=81 then(aS s).2 else dA 9 (aS s).2):=by
  split
  ·exact yH s
  ·exact(yH s).trans (ut _)
 have b:vw s=(if(aS (if(aS s).1=81 then(aS s).2 else dA 9 (aS s).2)).1=0 then
   ((0,⟨(kK (aS (if(aS s).1=81 then(aS s).2 else dA 9 (aS s).2)).2).1,(kK (kK (aS (if(aS s).1=81 then(aS s).2 else dA 9 (aS s).2)).2).2).1,(kK (kK (kK (aS (if(aS s).1=81 then(aS s).2 else dA 9 (aS s).2)).2).2).2).1⟩),(kK (kK (kK (aS (if(aS s).1=81 then(aS s).2 else dA 9 (aS s).2)).2).2).2).2)
   else if(aS (if(aS s).1=81 then(aS s).2 else dA 9 (aS s).2)).1=1 then((1,⟨0,0,0⟩),(aS (if(aS s).1=81 then(aS s).2 else dA 9 (aS s).2)).2)else(((aS (if(aS s).1=81 then(aS s).2 else dA 9 (aS s).2)).1,⟨0,0,0⟩),dA 11 (aS (if(aS s).1=81 then(aS s).2 else dA 9 (aS s).2)).2)):=rfl
 rw[b];generalize (if(aS s).1=81 then(aS s).2 else dA 9 (aS s).2)=s1 at*
 have h2:=c.trans (yH s1);split
 ·exact⟨((h2.trans (Jg _)).trans (Jg _)).trans (Jg _),fun _=>.inl rfl⟩
 ·rename_i h0
  split
  ·exact⟨h2,fun _=>.inr rfl⟩
  ·exact⟨h2.trans (ut _),fun e=>absurd e (KG (by decide) _)⟩
theorem Fy{m:Nat}{s:eK}(h:(bd m s).2.2=0):(bd m s).2.1.length+1≤s.1.length:=by
 unfold bd at h⊢;split at h
 ·exact absurd h (KG (by decide) _)
 ·rename_i h1
  rw[if_neg h1];unfold dX at h⊢;split at h
  ·rename_i h0
   rw[if_pos h0];cases e:wY 0 0 s.1 with
   |none=>rw[e]at h;exact absurd (show(9:Int)=0 from h) (by decide)
   |some p=>
    obtain⟨n,k⟩:=p;have:=zU s.1 0 0 (by omega) (by simp) e;simp only[aP];omega
  ·rename_i h0;exact absurd h h0
theorem zQ(s:eK):Go1 s (sr s).2:=((eJ 4294967295 s).trans (eJ 2 _)).trans ((Jf _ _ _).trans (B7 _))
theorem qn(s:eK):Go1 s (im s).2:=(B8 32 9 s).trans (eJ _ _)
theorem De(s:eK):Go1 s (sS s).2:=by
 show Go1 s (if 1<(aS s).1 then dA 9 (aS s).2 else(aS s).2)
 split
 ·exact(yH s).trans (ut _)
 ·exact yH s
theorem Jb(s:eK):Go1 s (sR s).2:=(eJ 2147483648 s).trans ((De _).trans (B7 _))
theorem Kz{s:eK}(h:(sr s).2.2=0):(sr s).2.1.length+1≤s.1.length:=by
 have g:Go1 (bd 4294967295 s).2 (sr s).2:=(eJ 2 _).trans ((Jf _ _ _).trans (B7 _));have:=Fy (Li g h);have:=g.1;omega
theorem Fz{s:eK}(h:(im s).2.2=0):(im s).2.1.length+1≤s.1.length:=by
 have g:Go1 (dg 32 9 s).2 (im s).2:=eJ _ _;have:=H2 (by decide) (Li g h);have:=g.1;omega
theorem KA{s:eK}(h:(sR s).2.2=0):(sR s).2.1.length+1≤s.1.length:=by
 have g:Go1 (bd 2147483648 s).2 (sR s).2:=(De _).trans (B7 _);have:=Fy (Li g h);have:=g.1;omega
theorem H1{α:Type}{f:eK→α×eK}(b:∀s,Go1 s (f s).2):∀(n:Nat) (l:List α) (s:eK),Go1 s (m0 f n l s).2
 |0,_,s=>Go1.refl s
 |n+1,l,s=>by
  unfold m0;split
  ·exact(b s).trans (H1 b n _ _)
  ·exact Go1.refl s
theorem tR{α:Type}{f:eK→α×eK}(b:∀s,Go1 s (f s).2)(s:eK):Go1 s (lw f s).2:=(jH s).trans (H1 b _ _ _)
structure RdN(N c:Nat)(s:eK):Prop where
 len:c+s.1.length≤N+1
 len0:s.2=0→c+s.1.length≤N
theorem RdN.next{N c:Nat}{s t:eK}(r:RdN N c s)(d:s.2=0)(g:Go1 s t)(f:t.2=0→t.1.length+1≤s.1.length):RdN N (c+1) t:=by
 have a:=r.len0 d;have b:=g.1;exact⟨by omega,fun e=>by have:=f e;omega⟩
theorem RdN.zero{N:Nat}{s:eK}(h:s.1.length≤N):RdN N 0 s:=⟨by omega,fun _=>by omega⟩
theorem Uf{q0:Nat}{W:Nat→Prop}{h:af}{sl:SliceV}{l:List UInt8}(i:q0<h.size)(k:Sl yq 1 W h sl l)(N:l.length≤90000){K:Option Addr→af→Prop}
  (u:∀h' b q,InAt (·≠q) h' b (l,0)→Upd No h h'→h.size≤b→(q=q0∨h.size≤q)→q<h'.size→K (some ⟨b,0,none⟩) h'):
  HC PG Ds [.slice sl.a sl.len sl.cap] [.c .ptr] K h:=by
 have F:=k.len;refine Pz sl ?_;unfold IJ yx;refine Hz sl ?_;unfold AU;refine CondP.intro (fun c=>?_) fun c=>?_
 ·have c:sl.a=none:=by simpa using c
  have hx:l= []:=by
   by_cases hx:l= []
   ·exact hx
   ·obtain⟨a,d,_⟩:=k.row hx
    rw[c]at d;cases d
  subst hx;refine bO fun x b1 k1=>u x h.size q0 ⟨⟨dU,b1,Sl.nil uS,aq _⟩,by show h.size≠q0;omega,bJ _⟩ k1 (aq _) (.inl rfl) (aG i k1.size)
 ·refine bO fun x b1 k1=>?_
  refine⟨_,(k.upd k1 fun _ h=>h.elim).srow,?_⟩
  refine AppP.own (f:=yq) (M:=fun b=>h.size≤b) (xs:= []) (ys:=l) ⟨rfl,uS,aq _,.inl rfl⟩ F rfl (Jm l) rfl (by omega) (by simp only[aM];omega) (by have:=k1.size;omega) fun s' h2 s z=>?_
  have v:Upd No h h2:=k1.trans z fun b J=>.inr J
  have E:=v.size;have L:=bo b1;have G:=z.size;obtain⟨q,m,B,j⟩:∃q,(h.size≤q)∧q<h2.size∧∀a,s'.a=some a→s'.cap≠0→a.block=q:=by
   rcases s.blk with e|⟨q,w,e,m,C,_⟩
   ·exact⟨h.size,aq _,by omega,fun _ _ D=>absurd e D⟩
   ·refine⟨q,m,bo C,fun a d _=>?_⟩
    rw[e]at d;cases d;rfl
  have t:Sl yq 1 (·≠q) h2 s' l:=by
   have o:=s.its;rw[List.nil_append]at o;exact o.sl fun y I H p=>p (by obtain⟨hc,a,d,rfl⟩:=I;exact j a d hc)
  have g:s'.len≤s'.cap:=s.cap;refine bO fun A b3 n=>u A h2.size q ⟨⟨s',b3,t.upd n fun _ h=>h.elim,g⟩,by show h2.size≠q;omega,by show l.length≤_;omega⟩ (v.tr n) E (.inr m) (by have:=n.size;omega)
end Go.Proofs
namespace Go.Proofs
open Go Go.Lift
abbrev ptF(v:Pt):List Value:= [.int .i64 v.1,.int .u64 v.2.1,.int .u64 v.2.2.1,.int .u64 v.2.2.2.1,.int .u32 v.2.2.2.2.1,.slice v.2.2.2.2.2.1.a v.2.2.2.2.2.1.len v.2.2.2.2.2.1.cap,.slice v.2.2.2.2.2.2.1.a v.2.2.2.2.2.2.1.len v.2.2.2.2.2.2.1.cap,.slice v.2.2.2.2.2.2.2.1.a v.2.2.2.2.2.2.2.1.len v.2.2.2.2.2.2.2.1.cap,.int .i64 v.2.2.2.2.2.2.2.2.1,.slice v.2.2.2.2.2.2.2.2.2.a v.2.2.2.2.2.2.2.2.2.len v.2.2.2.2.2.2.2.2.2.cap]
abbrev VO:Pt:=(0,0,0,0,0,dU,dU,dU,0,dU)
abbrev Qu:List Kind:= [.agg [.int .i64,.int .u64,.int .u64,.int .u64,.int .u32,.slice,.slice,.slice,.int .i64,.slice],.c (.int .i64)]
structure PtIs(W:Nat→Prop)(h:af)(u:Pt)(p:RParts):Prop where
 k:u.1=p.kind
 x:u.2.1=p.x.k0∧u.2.2.1=p.x.k1∧u.2.2.2.1=p.x.mask
 n:u.2.2.2.2.1=p.next
 v:∃VS,Sl GZ 8 W h u.2.2.2.2.2.1 VS∧LOk (VerOk W h p.kind p.x) VS p.vs
 b:Sl l6 2 W h u.2.2.2.2.2.2.1 p.bs
 t:Sl l6 2 W h u.2.2.2.2.2.2.2.1 p.ts
 l:u.2.2.2.2.2.2.2.2.1=p.last
 s:∃SS,Sl L9 8 W h u.2.2.2.2.2.2.2.2.2 SS∧LOk (SesOk W h p.kind p.x) SS p.ss
section
variable {z q b pb yi:Nat} {k:Int} {x:Hs} {s s':eK} {P P':List Sp} {VS:List RV} {rv:List Cw} {SS:List SR} {rz:List (Int×Bool×List Pr)} {h h' z0:af} {M:Nat→Prop} {nx last:Int} {vs bs ts ss:SliceV} {BS TS:List (ByteArray×Int)}
theorem OD(R:RdV z q b k x s (tI b pb yi k x nx dU [] dU [] dU [] 0 dU []) [] [] [] [] h)(t:s.2=0→k=0∨k=1)(T:s.1.length≤90000)(w:Upd No z0 h)(Q:z0.size≤b)(C:z0.size≤pb){K:Unit→af→Prop}
  (F:∀h' vs VS,RdV z q b k x (lw sr s).2 (tI b pb yi k x nx vs VS dU [] dU [] 0 dU []) VS (lw sr s).1 [] [] h'→Upd No z0 h'→(∀y,sb vs y→z0.size≤y)→K () h'):
  HC PG eH [QV b k x,.func (.func oU) #[] #[.pointer (some ⟨pb,0,none⟩),.pointer (some ⟨yi,0,none⟩)]] [] K h:=by
 have O:=R.r.lt;have P:pb<h.size:=R.r.o.al ⟨_,ak (i:=4) rfl,rfl⟩;have J:=w.size;refine wX (G:=List Cw×eK) (Inv:=fun g h'=>∃vs VS,RdV z q b k x g.2 (tI b pb yi k x nx vs VS dU [] dU [] 0 dU []) VS g.1 [] [] h'∧RdN s.1.length g.1.length g.2∧h.size<h'.size∧(∀y,sb vs y→h.size<y)∧Upd No z0 h'∧(g.2.2=0→s.2=0)) (st:=fun g=>g.2) (step:=fun g=>(g.1++ [(sr g.2).1],(sr g.2).2)) (M:=fun y=>y=b∨y=pb∨h.size<y) R.r.i ([],(dX s).2) ?_ ?_ ?_ ?_ ?_
 ·rintro(e|e|e)
  ·omega
  ·omega
  ·exact jo _ e
 ·intro h' H A p
  refine⟨dU,[],R.rd H A,RdN.zero (jH s).1,p,fun y c=>absurd c (jc y),w.trans A fun y c=>.inr (by have c:y=b:=c;omega),Li (jH s)⟩
 ·rintro g h' ⟨vs,VS,R',_⟩;exact R'.r.i
 ·rintro⟨l,f⟩ S ⟨vs,VS,R',n,p,d,w',u⟩ j
  have L:l.length+f.1.length≤s.1.length+1:=n.len;have N:VS.length=l.length:=R'.v.1;have j:f.2=0:=j;have m:=n.len0 j;refine Qr R' (t (u j)) (show f.1.length≤90000 by have:l.length+f.1.length≤s.1.length:=m;omega) (by omega) fun h2 s' v R2 o E=>⟨⟨s',_,R2,?_,aG p o.size,fun y c=>(E y c).elim (d y) fun e=>by omega,w'.trans o fun y c=>.inr ?_,fun e=>u (Li (zQ f) e)⟩,o.mono fun y c=>.inl (c.imp id fun e=>e.imp id (d y))⟩
  ·have:=n.next j (zQ f) Kz
   simpa using this
  ·rcases c with e|e|e
   ·omega
   ·omega
   ·have:=d y e;omega
 ·rintro D ⟨vs,VS,B,_,_,d,I,_⟩
  have e:tF (fun g:List Cw×eK=>g.2) (fun g=>(g.1++ [(sr g.2).1],(sr g.2).2)) (dX s).1 ([],(dX s).2)=lw sr s:=(su ..).symm
  rw[e]at B;exact F D vs VS B I fun y c=>by have:=d y c;omega
theorem OC(R:RdV z q b k x s (tI b pb yi k x nx vs VS dU [] dU [] 0 dU []) VS rv [] [] h)(t:s.2=0→k=0∨k=1)(S:s.1.length≤90000)(w:Upd No z0 h)(P:z0.size≤b)(B:z0.size≤pb){K:Unit→af→Prop}
  (E:∀h' bs,RdV z q b k x (lw im s).2 (tI b pb yi k x nx vs VS bs (lw im s).1 dU [] 0 dU []) VS rv [] [] h'→Upd No z0 h'→(∀y,sb bs y→z0.size≤y)→K () h'):
  HC PG eH [QV b k x,.func (.func oT) #[] #[.pointer (some ⟨pb,0,none⟩),.pointer (some ⟨yi,0,none⟩)]] [] K h:=by
 have N:=R.r.lt;have O:pb<h.size:=R.r.o.al ⟨_,ak (i:=4) rfl,rfl⟩;have I:=w.size;refine wX (G:=List (ByteArray×Int)×eK) (Inv:=fun g h'=>∃bs,RdV z q b k x g.2 (tI b pb yi k x nx vs VS bs g.1 dU [] 0 dU []) VS rv [] [] h'∧RdN s.1.length g.1.length g.2∧h.size<h'.size∧(∀y,sb bs y→h.size<y)∧Upd No z0 h'∧(g.2.2=0→s.2=0)) (st:=fun g=>g.2) (step:=fun g=>(g.1++ [(im g.2).1],(im g.2).2)) (M:=fun y=>y=b∨y=pb∨h.size<y) R.r.i ([],(dX s).2) ?_ ?_ ?_ ?_ ?_
 ·rintro(e|e|e)
  ·omega
  ·omega
  ·exact jo _ e
 ·intro h' F v p
  refine⟨dU,R.rd F v,RdN.zero (jH s).1,p,fun y c=>absurd c (jc y),w.trans v fun y c=>.inr (by have c:y=b:=c;omega),Li (jH s)⟩
 ·rintro g h' ⟨bs,R',_⟩;exact R'.r.i
 ·rintro⟨l,f⟩ Q ⟨bs,R',n,p,d,w',u⟩ j
  have J:l.length+f.1.length≤s.1.length+1:=n.len;have L:l.length=l.length:=rfl;have j:f.2=0:=j;have m:=n.len0 j;refine Qq R' (t (u j)) (show f.1.length≤90000 by have:l.length+f.1.length≤s.1.length:=m;omega) (show l.length≤900000 by omega) fun h2 s' R2 o D=>⟨⟨s',R2,?_,aG p o.size,fun y c=>(D y c).elim (d y) fun e=>by omega,w'.trans o fun y c=>.inr ?_,fun e=>u (Li (qn f) e)⟩,o.mono fun y c=>.inl (c.imp id fun e=>e.imp id (d y))⟩
  ·have:=n.next j (qn f) Fz
   simpa using this
  ·rcases c with e|e|e
   ·omega
   ·omega
   ·have:=d y e;omega
 ·rintro C ⟨bs,A,_,_,d,H,_⟩
  have e:tF (fun g:List (ByteArray×Int)×eK=>g.2) (fun g=>(g.1++ [(im g.2).1],(im g.2).2)) (dX s).1 ([],(dX s).2)=lw im s:=(su ..).symm
  rw[e]at A;exact E C bs A H fun y c=>by have:=d y c;omega
theorem OB(R:RdV z q b k x s (tI b pb yi k x nx vs VS bs BS dU [] 0 dU []) VS rv [] [] h)(t:s.2=0→k=0∨k=1)(S:s.1.length≤90000)(w:Upd No z0 h)(P:z0.size≤b)(B:z0.size≤pb){K:Unit→af→Prop}
  (E:∀h' ts,RdV z q b k x (lw im s).2 (tI b pb yi k x nx vs VS bs BS ts (lw im s).1 0 dU []) VS rv [] [] h'→Upd No z0 h'→(∀y,sb ts y→z0.size≤y)→K () h'):
  HC PG eH [QV b k x,.func (.func oQ) #[] #[.pointer (some ⟨pb,0,none⟩),.pointer (some ⟨yi,0,none⟩)]] [] K h:=by
 have N:=R.r.lt;have O:pb<h.size:=R.r.o.al ⟨_,ak (i:=4) rfl,rfl⟩;have I:=w.size;refine wX (G:=List (ByteArray×Int)×eK) (Inv:=fun g h'=>∃ts,RdV z q b k x g.2 (tI b pb yi k x nx vs VS bs BS ts g.1 0 dU []) VS rv [] [] h'∧RdN s.1.length g.1.length g.2∧h.size<h'.size∧(∀y,sb ts y→h.size<y)∧Upd No z0 h'∧(g.2.2=0→s.2=0)) (st:=fun g=>g.2) (step:=fun g=>(g.1++ [(im g.2).1],(im g.2).2)) (M:=fun y=>y=b∨y=pb∨h.size<y) R.r.i ([],(dX s).2) ?_ ?_ ?_ ?_ ?_
 ·rintro(e|e|e)
  ·omega
  ·omega
  ·exact jo _ e
 ·intro h' F v p
  refine⟨dU,R.rd F v,RdN.zero (jH s).1,p,fun y c=>absurd c (jc y),w.trans v fun y c=>.inr (by have c:y=b:=c;omega),Li (jH s)⟩
 ·rintro g h' ⟨ts,R',_⟩;exact R'.r.i
 ·rintro⟨l,f⟩ Q ⟨ts,R',n,p,d,w',u⟩ j
  have J:l.length+f.1.length≤s.1.length+1:=n.len;have L:l.length=l.length:=rfl;have j:f.2=0:=j;have m:=n.len0 j;refine Qp R' (t (u j)) (show f.1.length≤90000 by have:l.length+f.1.length≤s.1.length:=m;omega) (show l.length≤900000 by omega) fun h2 s' R2 o D=>⟨⟨s',R2,?_,aG p o.size,fun y c=>(D y c).elim (d y) fun e=>by omega,w'.trans o fun y c=>.inr ?_,fun e=>u (Li (qn f) e)⟩,o.mono fun y c=>.inl (c.imp id fun e=>e.imp id (d y))⟩
  ·have:=n.next j (qn f) Fz
   simpa using this
  ·rcases c with e|e|e
   ·omega
   ·omega
   ·have:=d y e;omega
 ·rintro C ⟨ts,A,_,_,d,H,_⟩
  have e:tF (fun g:List (ByteArray×Int)×eK=>g.2) (fun g=>(g.1++ [(im g.2).1],(im g.2).2)) (dX s).1 ([],(dX s).2)=lw im s:=(su ..).symm
  rw[e]at A;exact E C ts A H fun y c=>by have:=d y c;omega
theorem OA(R:RdV z q b k x s (tI b pb yi k x nx vs VS bs BS ts TS last dU []) VS rv [] [] h)(t:s.2=0→k=0∨k=1)(T:s.1.length≤90000)(w:Upd No z0 h)(Q:z0.size≤b)(C:z0.size≤pb){K:Unit→af→Prop}
  (F:∀h' ss SS,RdV z q b k x (lw sR s).2 (tI b pb yi k x nx vs VS bs BS ts TS last ss SS) VS rv SS (lw sR s).1 h'→Upd No z0 h'→(∀y,sb ss y→z0.size≤y)→K () h'):
  HC PG eH [QV b k x,.func (.func oO) #[] #[.pointer (some ⟨pb,0,none⟩),.pointer (some ⟨yi,0,none⟩)]] [] K h:=by
 have O:=R.r.lt;have P:pb<h.size:=R.r.o.al ⟨_,ak (i:=4) rfl,rfl⟩;have J:=w.size;refine wX (G:=List (Int×Bool×List Pr)×eK) (Inv:=fun g h'=>∃ss SS,RdV z q b k x g.2 (tI b pb yi k x nx vs VS bs BS ts TS last ss SS) VS rv SS g.1 h'∧RdN s.1.length g.1.length g.2∧h.size<h'.size∧(∀y,sb ss y→h.size<y)∧Upd No z0 h'∧(g.2.2=0→s.2=0)) (st:=fun g=>g.2) (step:=fun g=>(g.1++ [(sR g.2).1],(sR g.2).2)) (M:=fun y=>y=b∨y=pb∨h.size<y) R.r.i ([],(dX s).2) ?_ ?_ ?_ ?_ ?_
 ·rintro(e|e|e)
  ·omega
  ·omega
  ·exact jo _ e
 ·intro h' H A p
  refine⟨dU,[],R.rd H A,RdN.zero (jH s).1,p,fun y c=>absurd c (jc y),w.trans A fun y c=>.inr (by have c:y=b:=c;omega),Li (jH s)⟩
 ·rintro g h' ⟨ss,SS,R',_⟩;exact R'.r.i
 ·rintro⟨l,f⟩ S ⟨ss,SS,R',n,p,d,w',u⟩ j
  have L:l.length+f.1.length≤s.1.length+1:=n.len;have N:SS.length=l.length:=R'.s.1;have j:f.2=0:=j;have m:=n.len0 j;refine Qo R' (t (u j)) (show f.1.length≤90000 by have:l.length+f.1.length≤s.1.length:=m;omega) (by omega) fun h2 s' v R2 o E=>⟨⟨s',_,R2,?_,aG p o.size,fun y c=>(E y c).elim (d y) fun e=>by omega,w'.trans o fun y c=>.inr ?_,fun e=>u (Li (Jb f) e)⟩,o.mono fun y c=>.inl (c.imp id fun e=>e.imp id (d y))⟩
  ·have:=n.next j (Jb f) KA
   simpa using this
  ·rcases c with e|e|e
   ·omega
   ·omega
   ·have:=d y e;omega
 ·rintro D ⟨ss,SS,B,_,_,d,I,_⟩
  have e:tF (fun g:List (Int×Bool×List Pr)×eK=>g.2) (fun g=>(g.1++ [(sR g.2).1],(sR g.2).2)) (dX s).1 ([],(dX s).2)=lw sR s:=(su ..).symm
  rw[e]at B;exact F D ss SS B I fun y c=>by have:=d y c;omega
end
end Go.Proofs
namespace Go.Proofs
open Go Go.Lift
section
variable {z h:af} {sp vp sm pb cb:Nat} {s:VS} {last:Int} {ids:List Int} {es:List Se} {Ss:List Sp} {o:UN}
end
theorem OH{kind:Int}(B:kind=0∨kind=1){x:Hs}{z h:af}(E:Upd No z h){K:Option Addr×Int→af→Prop}
  (I:∀h' sp A sm pb cb s,s.L= []→s.B= []→s.G= []→s.nx=1→s.kind=kind→s.x=x→SwAt z h' sp A sm pb cb s 0 ((List.range 16).map fun j=>((j:Nat):Int)+1) [] []→K (some ⟨sp,0,none⟩,0) h'):
  HC PG yV [.int .i64 kind,.agg #[.int .u64 x.k0,.int .u64 x.k1,.int .u64 x.mask]] [.c .ptr,.c (.int .i64)] K h:=by
 refine LG kind (x.k0,x.k1,x.mask) ?_;unfold El ag GY H6;refine bO fun R b1 k1=>⟨_,vc b1 0,_,vc b1 1,_,vc b1 2,?_⟩
 have Q:=k1.size;refine SA (W:=No) (x:=x) (fun _ h=>h.elim) B fun q A gp gm tm bm nm t v O S C=>aH.2 ?_
 refine MH (n:=16) (by omega) (by omega) fun i H D=>?_
 have w:=Upd.push No i (.map #[] 0);have m:=qo i (.map #[] 0);refine RW fun F u=>?_
 have u:F=i.push (.map #[] 0):=u;rw[←u]at w m;have P:=C.size;have J:=bo D.2.1;have G:=bo m;have N:=E.size;refine bO fun g o d=>I g F.size A i.size (q.size+1) q.size ⟨gp,gm,tm,bm,nm,kind,x,t,[],1,[],[],[]⟩ rfl rfl rfl rfl rfl rfl ?_
 have b:Upd No q g:=(H.tr w).tr d;have f:=b.size;have V3:=d.size;refine⟨⟨v.re b (fun _ h=>h.elim) (fun y c=>?_) fun y c=>.inl c,fun y c=>v.size c,bo v.blk,o,⟨by omega,J,G⟩,?_,D.upd0 (w.tr d),by simp,fun e k=>(by cases k),fk,fk,fun e k=>(by cases k),fk,bJ _,by omega⟩,Own.nil,fun y ⟨a,L,_⟩=>(by cases L),((E.tr k1).tr C).tr b,by omega⟩
 ·rcases c with c|⟨c,p⟩
  ·exact⟨.inl (.inr c),aG (v.size c) f⟩
  ·exact⟨.inr c,p⟩
 ·exact⟨[],0,⟨d.get0 m,fk,fk,fun _ h=>by cases h⟩,rfl⟩
end Go.Proofs
namespace Go.Proofs
open Go Go.Lift
end Go.Proofs
namespace Go.Proofs
open Go Go.Lift
def byN(s:ByteArray)(i:Nat):Nat:=if h:i<s.size then(s[i]'h).toNat else 0
def hv(s:ByteArray):Nat→Nat→Nat
 |_,0=>0
 |p,c+1=>hv s (p+1) c*256+byN s p
end Go.Proofs
namespace Go.Proofs
open Go Go.Lift
end Go.Proofs
namespace Go.Proofs
open Go Go.Lift
section
variable {bu:Bool} {s:SliceV} {q q':Nat→List Pr} {kk kk':Nat→Option Addr} {i:Nat}
end
end Go.Proofs
namespace Go.Proofs
open Go Go.Lift
theorem OY{W W':Nat→Prop}{h:af}{s s':SliceV}{l:List UInt8}(f:Sl yq 1 W h s l)(c:Sl yq 1 W' h s' l)(o:l.length≤1000000000000){K:Bool→af→Prop}(n:K true h):HC PG Bk [.slice s.a s.len s.cap,.slice s'.a s'.len s'.cap] [.c .bool] K h:=by
 refine Nr s s' ?_;unfold GK aW cp;have m:=f.len;have h2:=c.len;rw[m,h2,bne_self_eq_false];refine aH.2 ?_;refine LoopP.ghost (fun(i:Nat) (t:Int) g=>t=(i:Int)∧i≤l.length∧g=h) (fun i=>l.length-i) 0 ⟨rfl,bJ _,rfl⟩ ?_
 rintro I i t g ⟨rfl,hi,rfl⟩ k;refine av (fun b=>?_) fun _=>n
 have b:i<l.length:=by omega
 obtain⟨a,j,_,hv⟩:=f.at0 (aj b);obtain⟨a',e,_,d⟩:=c.at0 (aj b);refine⟨⟨by omega,by omega⟩,a,j,_,hv,⟨by omega,by omega⟩,a',e,_,d,?_⟩
 rw[bne_self_eq_false];refine aH.2 ?_;rw[rt b (by omega)];exact k (i+1) _ _ ⟨rfl,b,rfl⟩ (by omega)
end Go.Proofs
namespace Go.Proofs
open Go Go.Lift
def G7(n:Nat):List UInt8:=if h:n<128 then[fj n]else fj (n%128+128)::G7 (n/128)
termination_by n
decreasing_by omega
theorem NZ{n:Nat}(h:n<128):G7 n= [fj n]:=by rw[G7,dif_pos h]
theorem SZ{n:Nat}(h:¬n<128):G7 n=fj (n%128+128)::G7 (n/128):=by rw[G7,dif_neg h]
theorem Vk(m:Nat):ac .u8 ((ao (ai .u8) (ac .u8 (m:Int))|||ao (ai .u8) 128).toNat:Int)=((fj (m%128+128)).toNat:Int):=by
 have key:∀n:Fin 256,ac .u8 ((ao (ai .u8) (n.val:Int)|||ao (ai .u8) 128).toNat:Int)=((n.val%128+128:Nat):Int):=by decide+kernel
 have e:ac .u8 (m:Int)=((m%256:Nat):Int):=by rw[IntKind.wrap_u8];omega
 have k:=key ⟨m%256,Nat.mod_lt _ (by omega)⟩;rw[e,k,UInt8.toNat_ofNat_of_lt' (by show m%128+128<256;omega)];show(((m%256)%128+128:Nat):Int)=_
 congr 1
 omega
theorem M4{W:Nat→Prop}{h:af}{s:SliceV}{xs:List UInt8}(C:Sl yq 1 W h s xs)(hc:s.len≤s.cap)(N:xs.length≤1000000000)(n:Nat)(A:n<18446744073709551616){K:SliceV→af→Prop}
  (q:∀f s',OwnS yq 1 lI (fun y=>h.size≤y) f s' (xs++G7 n)→Upd No h f→K s' f):HC PG Bo [.slice s.a s.len s.cap,.int .u64 (n:Int)] [.c .slice] K h:=by
 have w:=C.len;refine Nu s (n:Int) ?_;unfold GN;refine⟨⟨by omega,by omega⟩,⟨by omega,by omega⟩,?_⟩
 have E:=C.sub (l:=0) (hi:=xs.length) (m:=s.len) (c:=s.len-0) (bJ _) (aq _) (by omega);rw[dH,List.take_of_length_le (by omega)]at E;have app:∀{f:af} {ys:List UInt8} {t:SliceV} {b:UInt8} {v:Int} {K:SliceV→af→Prop},v=(b.toNat:Int)→ys.length≤100→Upd No h f→((ys= []∧t=⟨bw s.a 0 s.len 1,s.len-0,s.len-0⟩)∨OwnS yq 1 lI (fun y=>h.size≤y) f t (xs++ys))→
   (∀s' d,OwnS yq 1 lI (fun y=>h.size≤y) d s' (xs++(ys++ [b]))→Upd No h d→K s' d)→At (hnew f [.int .u8 v] lI) (fun B=>∃xs7,SRow B (some (aI f)) (1*1) xs7∧AppP (some [.int .u8 0]) 1 1 lI t.a t.len t.cap 1 xs7 B K):=by
  intro f ys t b v K hv j k i q;have z:=k.size;refine dx ?_;rcases i with⟨rfl,rfl⟩|i
  ·subst hv
   have k':=Upd.hnew No f [.int .u8 (b.toNat:Int)] lI;have L:OwnS yq 1 lI (fun _=>True) (hnew f [.int .u8 (b.toNat:Int)] lI) ⟨some (aI f),1,1⟩ [b]:=⟨rfl,uS,aq _,.inr ⟨f.size,[],rfl,trivial,c6 ..,rfl⟩⟩
   refine⟨_,(L.sl (W:=No) fun _ _ _ h=>h).srow,?_⟩
   have F:=(E.upd k fun _ h=>h.elim).upd k' fun _ h=>h.elim
   rw[←w]at F;refine Sb (ys:= [b]) F rfl rfl rfl (by omega) (show s.len-0<s.len-0+1 by omega) (by simp only[aQ];omega) fun s' d o u=>q s' d (by simpa using o.more fun y j=>by have:=k'.size;omega) ((k.tr k').tr u)
  ·refine RY hv i (fun y j=>by omega) (by simp only[ae];omega) fun s' d o u=>q s' d (by rw[←aF];exact o) (k.trans u fun y j=>.inr j)
 have G:(2:Int)^(min (7:Int).toNat (ai .u64))=128:=by decide
 refine LoopP.ghost (fun(g:Nat×List UInt8) (t:SliceV×Int) f=>t.2=(g.1:Int)∧g.1<18446744073709551616∧g.2.length+(if g.1=0 then 0 else 1)≤20∧(g.2.length≤9∧g.1*128^g.2.length≤n)∧g.2++G7 g.1=G7 n∧Upd No h f∧((g.2= []∧t.1=⟨bw s.a 0 s.len 1,s.len-0,s.len-0⟩)∨OwnS yq 1 lI (fun y=>h.size≤y) f t.1 (xs++g.2))) (fun g=>g.1) (n,[]) ⟨rfl,A,by simp only[aM];split<;>omega,by simp,rfl,Upd.refl _ _,.inl ⟨rfl,rfl⟩⟩ ?_
 rintro I ⟨m,ys⟩ ⟨t,tm⟩ f ⟨e,hm,_,⟨j,x⟩,p,k,i⟩ H;simp only at e hm j x p i;subst e;refine av (fun c=>?_) fun c=>?_
 ·have c:¬m<128:=by have c:(m:Int)≥128:=c;omega
  rw[SZ c]at p;have J:ys.length≤8:=by
   rcases Nat.lt_or_ge 8 ys.length with D|D
   ·have:ys.length=9:=by omega
    rw[this]at x;have:128*128^9≤m*128^9:=dD _ (by omega);omega
   ·exact D
  refine Join.plain (IE (app (Vk m) (by omega) k i fun s' d o u=>⟨by decide,?_⟩))
  show I (s',dI (m:Int) (2^(min (7:Int).toNat (ai .u64)))) d
  rw[G];refine H (m/128,ys++ [fj (m%128+128)]) _ _ ⟨by show dI (m:Int) 128=_;rw[Int.fdiv_eq_ediv_of_nonneg _ (by omega)];omega,by simp only;omega,by simp only[ae,aQ];split<;>omega,⟨by simp only[ae,aQ];omega,?_⟩,?_,u,.inr o⟩ (by simp only;omega)
  ·simp only[ae,aQ]
   calc m/128*128^(ys.length+1)=(m/128*128)*128^ys.length:=by rw[Nat.pow_succ,Nat.mul_assoc,Nat.mul_comm 128]
    _≤m*128^ys.length:=dD _ (Nat.div_mul_le_self m 128)
    _≤n:=x
  ·rw[aF];exact p
 ·have c:m<128:=by have c:¬(m:Int)≥128:=c;omega
  rw[NZ c]at p;rw[←p]at q;refine app (b:=fj m) ?_ (by omega) k i fun s' d o u=>q d s' o u
  rw[UInt8.toNat_ofNat_of_lt' (by show m<256;omega),IntKind.wrap_u8];show(m:Int)%256=_
  omega
theorem O0{W:Nat→Prop}{h:af}{c:Nat}{s:SliceV}{xs:List UInt8}(f:h[c]? =some (.cells #[.slice s.a s.len s.cap] xy (0,0))) (k:Sl yq 1 W h s xs) (hc:s.len≤s.cap) (q:xs.length≤1000000000) (n:Nat) (d:n<18446744073709551616) {K:Unit→af→Prop}
  (p:∀h' s',h'[c]? =some (.cells #[.slice s'.a s'.len s'.cap] xy (0,0))→OwnS yq 1 lI (fun y=>h.size≤y) h' s' (xs++G7 n)→Upd (· =c) h h'→K () h'):HC PG d9 [.pointer (some ⟨c,0,none⟩),.int .u64 (n:Int)] [] K h:=by
 refine Gr _ (n:Int) ?_;unfold zk TW;have j:=bo f;refine⟨_,rfl,s,vc f 0,M4 k hc q n d fun t m o k1=>⟨_,rfl,yv (b:=c) (i:=0) (k1.get0 f) (by simp) rfl fun h2 b2 g=>p h2 m b2 (o.upd g fun y u e=>by have e:y=c:=e;omega) (k1.wide.tr g)⟩⟩
end Go.Proofs
namespace Go.Proofs
open Go Go.Lift
set_option maxHeartbeats 400000 in
theorem QB{W0:Nat→Prop}{h:af}{sl:SliceV}{l:List UInt8}(hs:Sl yq 1 W0 h sl l)(hn:l.length≤90000){K:Pt×Int→af→Prop}
  (u:(Ay (l,0)).2.2≠0→∀x,Upd No h x→K (VO,(Ay (l,0)).2.2) x)
  (w:(Ay (l,0)).2.2=0→∀x v,PtIs (fun y=>y<h.size) x v (Ay (l,0)).1→Upd No h x→K (v,0) x):
  HC PG p4 [.slice sl.a sl.len sl.cap] Qu K h:=by
 have hlen:=hs.len;refine Eh sl ?_;unfold zn gR bV fA nv DR aC ag cq bW cu TZ ft ar cz TQ TY px;refine bO fun k b1 k1=>av (fun c=>absurd c (by omega)) fun _=>?_
 have z1:=bo b1;refine Uf (q0:=h.size) z1 (hs.upd k1 fun _ h=>h.elim) hn fun h2 b q Y k2 J zq hq=>?_
 have lb:=Y.lt;have r2:Rd q b (l,0) [] h2:=⟨Y,Own.nil,fun⟨_,h,_⟩=>(by cases h),fun⟨_,h,_⟩=>(by cases h),hq⟩
 refine r2.var fun h3 r3 k3 z3=>r3.fill 0 rfl (by rfl) fun h4 r4 u4=>?_
 have z2:=k2.size;have w4:Upd No k h4:=(k2.tr k3).trans u4 fun y d=>.inr (by have d:y=h2.size:=d;omega)
 obtain⟨F,es⟩:∃F:eK,F=(l,0):=⟨_,rfl⟩;rw[←es]at u w r4;have ls:F.1.length=l.length:=by rw[es]
 clear es Y r2 r3;refine MG (yi:=h2.size) r4 fun h5 n u5=>?_
 have T:Upd No k h5:=w4.trans u5 fun y d=>.inr (by omega)
 have z5:=T.size;obtain⟨gk,U⟩:=H5 F;rw[KB]at u w;simp only[qK,qN,qV,qB,qT,qL,qZ]at u w;generalize vw F=cK at*;obtain⟨m,eN⟩:∃c,c=bd 4294967295 cK.2:=⟨_,rfl⟩;have O:=gk.trans (eJ 4294967295 cK.2);have P:(bd 4294967295 cK.2).2.2=0→(cK.1.1:Int)=0∨(cK.1.1:Int)=1:=fun e=>U (Li (eJ 4294967295 cK.2) e)
 rw[←eN]at u w O P;obtain⟨C,eV⟩:∃c,c=lw sr m.2:=⟨_,rfl⟩;have gV:=O.trans (tR zQ m.2);have kV:(lw sr m.2).2.2=0→(cK.1.1:Int)=0∨(cK.1.1:Int)=1:=fun e=>P (Li (tR zQ m.2) e)
 rw[←eV]at u w gV kV;obtain⟨A,eB⟩:∃c,c=lw im C.2:=⟨_,rfl⟩;have S:=gV.trans (tR qn C.2);have Q:(lw im C.2).2.2=0→(cK.1.1:Int)=0∨(cK.1.1:Int)=1:=fun e=>kV (Li (tR qn C.2) e)
 rw[←eB]at u w S Q;obtain⟨z,eT⟩:∃c,c=lw im A.2:=⟨_,rfl⟩;have gT:=S.trans (tR qn A.2);have kT:(lw im A.2).2.2=0→(cK.1.1:Int)=0∨(cK.1.1:Int)=1:=fun e=>Q (Li (tR qn A.2) e)
 rw[←eT]at u w gT kT;obtain⟨B,eL⟩:∃c,c=bd 2147483648 z.2:=⟨_,rfl⟩;have gL:=gT.trans (eJ 2147483648 z.2);have kL:(bd 2147483648 z.2).2.2=0→(cK.1.1:Int)=0∨(cK.1.1:Int)=1:=fun e=>kT (Li (eJ 2147483648 z.2) e)
 have e0:=lc 2147483648 z.2;rw[←eL]at u w gL kL e0;obtain⟨cZ,eZ⟩:∃c,c=lw sR B.2:=⟨_,rfl⟩;rw[←eZ]at u w;have lN:m.2.1.length≤l.length:=ls▸O.1;have lV:C.2.1.length≤l.length:=ls▸gV.1;have lB:A.2.1.length≤l.length:=ls▸S.1;have lT:z.2.1.length≤l.length:=ls▸gT.1;have lL:B.2.1.length≤l.length:=ls▸gL.1;refine Join.intro (fun t x=>∃pb,t=⟨pb,0,none⟩∧Rd q b m.2 [co pb (rG cK.1.1 cK.1.2 m.1 dU dU dU 0 dU) bH,co h2.size (N8 b cK.1.1 cK.1.2) eu] x∧Upd No k x∧k.size≤pb)
  (fun R hR=>⟨_,n.cl 0 rfl 1,_,n.cl 0 rfl 2,_,n.cl 0 rfl 3,_,n.cl 0 rfl 4,_,n.cl 0 rfl 0,_,n.cl 0 rfl 1,_,n.cl 0 rfl 2,_,n.cl 0 rfl 3,_,n.cl 0 rfl 4,⟨?_,?_⟩⟩) ?_
 ·refine FE n.i fun L i6 Z=>?_
  rw[←eN]at i6⊢;have j:=n.rd i6 Z;have z6:=Z.size;refine⟨⟨j.cl 0 rfl 2,j.cl 0 rfl 3,j.cl 0 rfl 4⟩,j.cl 0 rfl 1,j.var fun h7 s k7 z7=>⟨⟨s.cl 1 rfl 2,s.cl 1 rfl 3,s.cl 1 rfl 4⟩,s.cl 1 rfl 1,s.fill 0 rfl (by rfl) fun h8 V X=>hR _ _ ⟨_,rfl,V,?_,by omega⟩⟩⟩
  exact((T.trans Z fun y d=>.inr (by have d:y=b:=d;omega)).tr k7).trans X fun y d=>.inr (by have d:y=L.size:=d;omega)
 ·refine n.var fun L j k6 z6=>⟨⟨j.cl 1 rfl 0,j.cl 1 rfl 1,j.cl 1 rfl 2,j.cl 1 rfl 3,j.cl 1 rfl 4⟩,⟨j.cl 1 rfl 2,j.cl 1 rfl 3,j.cl 1 rfl 4⟩,j.cl 1 rfl 1,FE j.i fun h7 i7 u7=>?_⟩
  rw[←eN]at i7⊢;have s:=j.rd i7 u7;refine⟨⟨s.cl 1 rfl 2,s.cl 1 rfl 3,s.cl 1 rfl 4⟩,s.cl 1 rfl 1,s.fill 0 rfl (by rfl) fun h8 V X=>hR _ _ ⟨_,rfl,V,?_,by omega⟩⟩
  exact((T.tr k6).trans u7 fun y d=>.inr (by have d:y=b:=d;omega)).trans X fun y d=>.inr (by have d:y=h5.size:=d;omega)
 rintro _ L ⟨pb,rfl,j,w6,N⟩;have rs:=(((j.cons (a:=bI L9 8 cA dU []) (OwnS.nil Qh) fun y d=>absurd d (jc y)).cons (a:=bI l6 2 fQ dU []) (OwnS.nil Jq) fun y d=>absurd d (jc y)).cons (a:=bI l6 2 fQ dU []) (OwnS.nil Jq) fun y d=>absurd d (jc y)).cons (a:=bI GZ 8 dq dU []) (OwnS.nil Sz) fun y d=>absurd d (jc y)
 have R:RdV k.size q b cK.1.1 cK.1.2 m.2 (tI b pb h2.size cK.1.1 cK.1.2 m.1 dU [] dU [] dU [] 0 dU []) [] [] [] [] L:=⟨rs,LOk.nil,LOk.nil,w6.size⟩;refine⟨_,R.r.cl 5 rfl 0,_,R.r.cl 5 rfl 1,_,R.r.cl 5 rfl 2,_,R.r.cl 5 rfl 3,_,R.r.cl 5 rfl 4,OD R P (by omega) w6 J N fun h7 vs VS R7 w7 o1=>?_⟩
 rw[←eV]at R7;refine⟨_,R7.r.cl 5 rfl 0,_,R7.r.cl 5 rfl 1,_,R7.r.cl 5 rfl 2,_,R7.r.cl 5 rfl 3,_,R7.r.cl 5 rfl 4,OC R7 kV (by omega) w7 J N fun h8 bs R8 w8 o2=>?_⟩
 rw[←eB]at R8;refine⟨_,R8.r.cl 5 rfl 0,_,R8.r.cl 5 rfl 1,_,R8.r.cl 5 rfl 2,_,R8.r.cl 5 rfl 3,_,R8.r.cl 5 rfl 4,OB R8 Q (by omega) w8 J N fun h9 ts R9 w9 o3=>?_⟩
 rw[←eT]at R9;refine⟨_,R9.r.cl 5 rfl 0,_,R9.r.cl 5 rfl 1,_,R9.r.cl 5 rfl 2,_,R9.r.cl 5 rfl 3,_,R9.r.cl 5 rfl 4,zS R9.r.i 2147483648 fun hA iA uA=>?_⟩
 rw[←eL]at iA⊢;rw[Go.IntWalk.i64_in _ (by omega)];have RA:=R9.rd iA uA;have wA:Upd No k hA:=w9.trans uA fun y d=>.inr (by have d:y=b:=d;omega)
 refine RA.r.wr (p:=pb) (i:=8) 4 rfl (by simp) fun hB rB uB=>?_
 have RB:RdV k.size q b cK.1.1 cK.1.2 B.2 (tI b pb h2.size cK.1.1 cK.1.2 m.1 vs VS bs A.1 ts z.1 B.1 dU []) VS C.1 [] [] hB:=by
  refine RA.go rB uB (fun y d=>.inl (.inr ⟨_,ak (i:=4) rfl,d⟩)) ?_
  rintro y ⟨a,ha,d⟩;simp only[List.set_cons_succ,List.set_cons_zero,List.mem_cons,List.not_mem_nil,or_false]at ha;rcases ha with rfl|rfl|rfl|rfl|rfl|rfl
  ·exact .inl ⟨_,ak (i:=0) rfl,d⟩
  ·exact .inl ⟨_,ak (i:=1) rfl,d⟩
  ·exact .inl ⟨_,ak (i:=2) rfl,d⟩
  ·exact .inl ⟨_,ak (i:=3) rfl,d⟩
  ·exact .inl ⟨_,ak (i:=4) rfl,d⟩
  ·exact .inl ⟨_,ak (i:=5) rfl,d⟩
 have wB:Upd No k hB:=wA.trans uB fun y d=>.inr (by have d:y=pb:=d;omega)
 refine⟨_,RB.r.cl 5 rfl 0,_,RB.r.cl 5 rfl 1,_,RB.r.cl 5 rfl 2,_,RB.r.cl 5 rfl 3,_,RB.r.cl 5 rfl 4,OA RB kL (by omega) wB J N fun hC ss SS RC wC o4=>?_⟩
 rw[←eZ]at RC;refine⟨_,RC.r.cl 5 rfl 0,QX RC.r.i fun G iD uD=>?_⟩
 have RD:=RC.rd iD uD;have H:Upd No k G:=wC.trans uD fun y d=>.inr (by have d:y=b:=d;omega)
 have bD:=H.get0 b1;refine CondP.intro (fun c=>?_) fun c=>?_
 ·have c:(Ai cZ.2).2≠0:=by simpa using c
  refine eE bD (by rfl) fun I g D=>⟨_,vc g 0,_,vc g 1,_,vc g 2,_,vc g 3,_,vc g 4,dU,vc g 5,dU,vc g 6,dU,vc g 7,_,vc g 8,dU,vc g 9,u c I ((k1.tr H).trans D fun y d=>.inr (by have d:y=h.size:=d;omega))⟩
 ·have c:(Ai cZ.2).2=0:=by simpa using c
  have zD:=H.size;refine⟨_,RD.r.cl 4 rfl 0,_,RD.r.cl 4 rfl 1,_,RD.r.cl 4 rfl 2,_,RD.r.cl 4 rfl 3,_,RD.r.cl 4 rfl 4,vs,RD.r.cl 4 rfl 5,bs,RD.r.cl 4 rfl 6,ts,RD.r.cl 4 rfl 7,_,RD.r.cl 4 rfl 8,ss,RD.r.cl 4 rfl 9,eE bD (by rfl) fun I g D=>⟨_,vc g 0,_,vc g 1,_,vc g 2,_,vc g 3,_,vc g 4,vs,vc g 5,bs,vc g 6,ts,vc g 7,_,vc g 8,ss,vc g 9,w c I ((cK.1.1:Int),cK.1.2.k0,cK.1.2.k1,cK.1.2.mask,(m.1:Int),vs,bs,ts,(B.1:Int),ss) ?_ ((k1.tr H).trans D fun y d=>.inr (by have d:y=h.size:=d;omega))⟩⟩
  have hw:∀y,y=h.size→(y<k.size∨y=b∨AL (tI b pb h2.size cK.1.1 cK.1.2 m.1 vs VS bs A.1 ts z.1 B.1 ss SS) y)∨G.size≤y:=fun y d=>.inl (.inl (by omega))
  have E:∀y,y<h.size→(y<k.size∨y=b∨AL (tI b pb h2.size cK.1.1 cK.1.2 m.1 vs VS bs A.1 ts z.1 B.1 ss SS) y)∨G.size≤y:=fun y d=>.inl (.inl (by omega))
  have sub:∀{α:Type} {f:α→List Value} {sz:Nat} {ty:TypeId} {sx:SliceV} {xs:List α},OwnS f sz ty (sb sx) G sx xs→(∀y,sb sx y→k.size≤y)→Sl f sz (fun y=>y<h.size) I sx xs:=fun o ho=>
   ((o.sl (W:=fun y=>y<k.size) fun y d _ hlt=>by have:=ho y d;omega).upd D fun y d=>.inl (by show y<k.size;have d:y=h.size:=d;omega)).less fun y d=>.inl (by show y<k.size;have d:y<h.size:=d;omega)
  refine⟨rfl,⟨rfl,rfl,rfl⟩,rfl,⟨VS,sub (RD.r.o.get (i:=0) rfl) o1,RD.v.imp fun v r o=>o.re D hw E⟩,sub (RD.r.o.get (i:=1) rfl) o2,sub (RD.r.o.get (i:=2) rfl) o3,rfl,⟨SS,sub (RD.r.o.get (i:=3) rfl) o4,RD.s.imp fun v r o=>o.re D hw E⟩⟩
end Go.Proofs
namespace Go.Proofs
open Go Go.Lift
theorem K3:∀(p:List UInt8) (j:Nat) (hj:j<p.length),j≤pE p→(127<p[j].toNat↔j<pE p)
 | [],j,hj,_=>absurd hj (Nat.not_lt_zero _)
 |b::p,0,_,_=>by
  show 127<b.toNat↔0<pE (b::p)
  unfold pE;split
  ·exact⟨fun _=>xU _,fun _=>by assumption⟩
  ·exact⟨fun h=>absurd h (by assumption),fun h=>absurd h (jo _)⟩
 |b::p,j+1,hj,hl=>by
  unfold pE at hl⊢;split at hl
  ·rename_i c
   rw[if_pos c];have:=K3 p j (by simpa using hj) (by omega);rw[List.getElem_cons_succ,this];omega
  ·omega
theorem NL:∀(l:List UInt8) (i:Nat),BP (l.drop i)≤BP l
 | [],i=>by rw[List.drop_nil];exact aq _
 |b::l,0=>aq _
 |b::l,i+1=>by
  rw[List.drop_succ_cons];have:=NL l i;have e:BP (b::l)=b.toNat%128+128*BP l:=rfl;omega
theorem D2{W:Nat→Prop}{h:af}{sp:SliceV}{p:List UInt8}(A:Sl yq 1 W h sp p)(Y:p.length≤1000000000)(a:Nat)(V:a≤p.length){K:Int×Int→af→Prop}
  (B:K (match wY 0 0 (p.drop a)with|some (n,k)=>((n:Int),(k:Int))|none=>(0,0)) h):HC PG tW [.slice sp.a sp.len sp.cap,.int .i64 (a:Int)] [.c (.int .u64),.c (.int .i64)] K h:=by
 have L:=A.len;have key:=S0 (p.drop a) 0 0 (by omega);have N:=Ta (p.drop a);have hd:(p.drop a).length=p.length-a:=aP ..;have u:∀j (J:a+j<p.length),(p.drop a)[j]'(by omega)=p[a+j]:=fun j J=>by rw[List.getElem_drop]
 refine JT sp (a:Int) ?_;unfold CM aW cp;have x:ac .i64 ((a:Int)+9)=((a+9:Nat):Int):=by rw[Go.IntWalk.i64_in _ (by omega)];omega
 refine LoopP.ghost (fun(j:Nat) t q=>q=h∧t=((a+j:Nat):Int)∧j≤min (pE (p.drop a)) 9) (fun j=>9-j) 0 ⟨rfl,rfl,bJ _⟩ ?_
 rintro I j t q ⟨rfl,rfl,J⟩ F;refine Join.intro (fun(t:Bool) h2=>h2=q∧(t=true↔j<min (pE (p.drop a)) 9)) (fun R i=>?_) ?_
 ·refine av (fun c1=>?_) fun c1=>i _ _ ⟨rfl,?_⟩
  ·rw[x]
   refine av (fun b=>?_) fun b=>i _ _ ⟨rfl,?_⟩
   ·have f:a+j<p.length:=by omega
    obtain⟨m,d,_,hc⟩:=A.at0 (aj f);have z:=K3 (p.drop a) j (by omega) (by omega);rw[u j f]at z;refine⟨⟨by omega,by omega⟩,m,d,_,hc,i _ _ ⟨rfl,?_⟩⟩
    rw[decide_eq_true_iff];constructor
    ·intro h;have:=z.1 (by omega);omega
    ·intro h;have:=z.2 (by omega);omega
   ·simp only[ce,false_iff];omega
  ·simp only[ce,false_iff];omega
 rintro t h2 ⟨rfl,D⟩;refine CondP.intro (fun c=>F (j+1) _ _ ⟨rfl,?_,by have:=D.1 c;omega⟩ (by have:=D.1 c;omega)) fun c=>?_
 ·rw[Go.IntWalk.i64_in _ (by omega)];omega
 have c:¬j<min (pE (p.drop a)) 9:=fun e=>by rw[D.2 e]at c;cases c
 have P:min (pE (p.drop a)) (9-0)=j:=by omega
 rw[P,Nat.pow_zero,Nat.one_mul,bi,bi]at key;refine Join.intro (fun(t:Bool) q=>q=h2∧(t=true↔(p.drop a).length≤j∨(j=9∧1<((p.drop a).getD j 0).toNat)∨(0<j∧((p.drop a).getD j 0).toNat=0))) (fun R i=>?_) ?_
 ·refine av (fun c1=>i _ _ ⟨rfl,by simp only[true_iff];left;omega⟩) fun c1=>?_
  have f:a+j<p.length:=by omega
  obtain⟨m,d,_,hc⟩:=A.at0 (aj f);have w:(p.drop a).getD j 0=p[a+j]:=by rw[nD,pX,aj f];rfl
  rw[x];refine CondP.intro (fun b=>⟨⟨by omega,by omega⟩,m,d,_,hc,av (fun v=>i _ _ ⟨rfl,?_⟩) fun v=>av (fun E=>⟨⟨by omega,by omega⟩,m,d,_,hc,i _ _ ⟨rfl,?_⟩⟩) fun E=>i _ _ ⟨rfl,?_⟩⟩) fun b=>av (fun E=>⟨⟨by omega,by omega⟩,m,d,_,hc,i _ _ ⟨rfl,?_⟩⟩) fun E=>i _ _ ⟨rfl,?_⟩
  ·have b:((a+j:Nat):Int)=((a+9:Nat):Int):=by simpa using b
   rw[w];simp only[true_iff];omega
  ·have b:((a+j:Nat):Int)=((a+9:Nat):Int):=by simpa using b
   rw[w,beq_iff_eq];omega
  ·rw[w];simp only[ce,false_iff];omega
  ·have b:((a+j:Nat):Int)≠((a+9:Nat):Int):=by simpa using b
   rw[w,beq_iff_eq];omega
  ·have b:((a+j:Nat):Int)≠((a+9:Nat):Int):=by simpa using b
   rw[w];simp only[ce,false_iff];omega
 rintro t q ⟨rfl,s⟩;refine CondP.intro (fun b=>?_) fun b=>?_
 ·rw[if_pos (s.1 b)]at key
  rw[key]at B;exact B
 have b:¬((p.drop a).length≤j∨(j=9∧1<((p.drop a).getD j 0).toNat)∨(0<j∧((p.drop a).getD j 0).toNat=0)):=fun e=>by rw[s.2 e]at b;cases b
 rw[if_neg b]at key;have hv:=(zU _ 0 0 (by omega) (by simp) key).2.2;rw[key]at B;have O:a+j<p.length:=by omega
 have Q:((p.drop a).take (j+1)).length=j+1:=by rw[aO];omega
 refine LoopP.ghost (fun(g:Nat) (t:Int×Int) y=>y=q∧g≤j+1∧t.1=((BP (((p.drop a).take (j+1)).drop g):Nat):Int)∧t.2=((a+g:Nat):Int)-1) (fun g=>g) (j+1) ⟨rfl,aq _,?_,by simp only;omega⟩ ?_
 ·rw[fy (by omega)];rfl
 rintro I g ⟨U,T⟩ y ⟨rfl,z,H,G⟩ F;simp only at H G;subst H G;refine av (fun v=>?_) fun v=>?_
 ·obtain⟨g,rfl⟩:∃g',g=g'+1:=⟨g-1,by simp only at v;omega⟩
  have f:a+g<p.length:=by omega
  obtain⟨m,d,_,hc⟩:=A.at0 (aj f);have S:((a+(g+1):Nat):Int)-1=((a+g:Nat):Int):=by omega
  rw[S];refine⟨⟨by omega,by omega⟩,m,d,_,hc,by decide,?_⟩
  have X:=p[a+g].toNat_lt;have ed:((p.drop a).take (j+1)).drop g=p[a+g]::((p.drop a).take (j+1)).drop (g+1):=by
   rw[dL (by omega),List.getElem_take,List.getElem_drop]
  have o:=NL ((p.drop a).take (j+1)) g;rw[ed]at o;have o:p[a+g].toNat%128+128*BP (((p.drop a).take (j+1)).drop (g+1))≤_:=o;refine IE (F g _ _ ⟨rfl,by omega,?_,?_⟩ (by omega))
  ·show ac .u64 (ac .u64 (128*_)+ac .u64 (Int.tmod (p[a+g].toNat:Int) 128))=_
   rw[ed];have em:Int.tmod (p[a+g].toNat:Int) 128=((p[a+g].toNat%128:Nat):Int):=by rw[Int.tmod_eq_emod_of_nonneg (by omega)];omega
   rw[em,Go.IntWalk.u64_in (128*_) (by omega),Go.IntWalk.u64_in ((p[a+g].toNat%128:Nat):Int) (by omega),Go.IntWalk.u64_in _ (by omega)];have e:BP (p[a+g]::((p.drop a).take (j+1)).drop (g+1))=p[a+g].toNat%128+128*BP (((p.drop a).take (j+1)).drop (g+1)):=rfl;omega
  ·show ac .i64 (_-1)=_
   rw[Go.IntWalk.i64_in _ (by omega)]
 ·have C:g=0:=by simp only at v;omega
  subst C;rw[dH];have ek:ac .i64 (ac .i64 (((a+j:Nat):Int)-(a:Int))+1)=((j+1:Nat):Int):=by
   rw[Go.IntWalk.i64_in (((a+j:Nat):Int)-(a:Int)) (by omega),Go.IntWalk.i64_in _ (by omega)];omega
  show K (_,ac .i64 (ac .i64 (((a+j:Nat):Int)-(a:Int))+1)) _
  rw[ek];exact B
structure RnAt(W:Nat→Prop)(h:af)(b:Nat)(p:List UInt8)(s:eK):Prop where
 ex:∃(sp:SliceV) (a:Nat),h[b]? =some (.cells #[.slice sp.a sp.len sp.cap,.int .i64 (a:Int),.int .i64 s.2] Ko (0,0))∧Sl yq 1 W h sp p∧sp.len≤sp.cap∧a≤p.length∧s.1=p.drop a
 w:W b
 n:p.length≤1000000000
section
variable {W M:Nat→Prop} {h h':af} {b:Nat} {p:List UInt8} {s:eK}
theorem RnAt.upd(i:RnAt W h b p s)(k:Upd M h h')(g:¬M b)(hm:∀y,M y→W y∨h.size≤y):RnAt W h' b p s:=
 let⟨sp,a,hc,d,f,c,e⟩:=i.ex
 ⟨⟨sp,a,k.get hc g,d.upd k hm,f,c,e⟩,i.w,i.n⟩
theorem RnAt.upd0(i:RnAt W h b p s)(k:Upd No h h'):RnAt W h' b p s:=i.upd k id fun _ h=>h.elim
theorem RnAt.lt(i:RnAt W h b p s):b<h.size:=let⟨_,_,hc,_⟩:=i.ex;bo hc
theorem RnAt.err(i:RnAt W h b p s):bj h (adr ⟨b,0,none⟩ 2)=some (.int .i64 s.2):=by
 obtain⟨sp,a,c,_⟩:=i.ex;rw[vc c 2];rfl
theorem RnAt.setErr(i:RnAt W h b p s){e:Int}{f:af→Prop}(m:∀h',RnAt W h' b p (s.1,e)→Upd (· =b) h h'→f h'):Wr h (adr ⟨b,0,none⟩ 2)∧At (hset h (adr ⟨b,0,none⟩ 2) (.int .i64 e)) f:=by
 obtain⟨sp,a,k,g,o,n,j⟩:=i.ex;exact yv k (by simp) rfl fun h' c u=>m h' ⟨⟨sp,a,c,g.upd u fun y d=>.inl (by have d:y=b:=d;subst d;exact i.w),o,n,j⟩,i.w,i.n⟩ u
theorem uk(i:RnAt W h b p s){e:Int}{K:Unit→af→Prop}(d:∀h',RnAt W h' b p (dA e s)→Upd (· =b) h h'→K () h'):HC PG nl [.pointer (some ⟨b,0,none⟩),.int .i64 e] [] K h:=by
 refine Np _ e ?_;unfold GI cq cu;refine⟨_,rfl,_,i.err,CondP.intro (fun c=>⟨_,rfl,i.setErr fun h' f u=>d h' ?_ u⟩) fun c=>d h ?_ (Upd.refl _ _)⟩
 ·have c:s.2=0:=by simpa using c
  rw[dA,if_pos c];exact f
 ·have c:s.2≠0:=by simpa using c
  rw[dA,if_neg c];exact i
theorem Ql(i:RnAt W h b p s){K:Int→af→Prop}(m:∀h',RnAt W h' b p (Ai s)→Upd (· =b) h h'→K (Ai s).2 h'):HC PG Dr [.pointer (some ⟨b,0,none⟩)] [.c (.int .i64)] K h:=by
 obtain⟨sp,a,e,g,q,n,k⟩:=i.ex;have o:=g.len;have j:s.1.length=p.length-a:=by rw[k,aP]
 refine Py _ ?_;unfold II cq tP cz;refine Join.intro (fun _ h'=>RnAt W h' b p (Ai s)∧Upd (· =b) h h') (fun R f=>⟨_,rfl,_,vc e 1,_,rfl,sp,vc e 0,av (fun c=>uk i fun h' d u=>f _ _ ⟨?_,u⟩) fun c=>f _ _ ⟨?_,Upd.refl _ _⟩⟩) fun _ h' ⟨d,u⟩=>⟨_,rfl,_,d.err,m h' d u⟩
 ·rw[Ai,if_pos (by omega)];exact d
 ·rw[Ai,if_neg (by omega)];exact i
theorem Da(i:RnAt W h b p s){K:Int→af→Prop}(g:∀h',RnAt W h' b p (aS s).2→Upd (· =b) h h'→K ((aS s).1:Int) h'):HC PG uI [.pointer (some ⟨b,0,none⟩)] [.c (.int .u8)] K h:=by
 obtain⟨sp,a,k,m,x,C,t⟩:=i.ex;have B:=m.len;have z:=i.n;have w:s.1.length=p.length-a:=by rw[t,aP]
 refine Nq _ ?_;unfold GJ aW cp cq cu cz;refine⟨_,rfl,_,vc k 2,CondP.intro (fun c=>?_) fun c=>⟨_,rfl,_,vc k 1,_,rfl,sp,vc k 0,av (fun c1=>⟨_,rfl,i.setErr fun h' A u=>?_⟩) fun c1=>⟨_,rfl,_,vc k 1,_,rfl,yv k (by simp) rfl fun h' d u=>⟨_,rfl,sp,vc d 0,_,rfl,_,vc d 1,?_⟩⟩⟩⟩
 ·have c:s.2≠0:=by simpa using c
  have e:aS s=(0,s):=by unfold aS fV;rw[if_neg c];rfl
  rw[e]at g;exact g h i (Upd.refl _ _)
 ·have c:s.2=0:=by simpa using c
  have e:aS s=(0,s.1,9):=by unfold aS fV;rw[if_pos c,if_pos (by omega)];rfl
  rw[e]at g;exact g h' A u
 ·have c:s.2=0:=by simpa using c
  have j:a<p.length:=by omega
  have e:aS s=(p[a].toNat,p.drop (a+1),0):=by
   unfold aS fV;rw[if_pos c,if_neg (by omega),t,cS];simp only;rw[nD,List.getElem?_take,pX,aj (show a+0<p.length by omega)]
   rfl
  rw[e]at g;obtain⟨v,o,_,hc⟩:=(m.upd u fun y f=>.inl (by have f:y=b:=f;subst f;exact i.w)).at0 (aj j)
  have q:ac .i64 ((a:Int)+1)=((a+1:Nat):Int):=by rw[Go.IntWalk.i64_in _ (by omega)];omega
  have n:ac .i64 (ac .i64 ((a:Int)+1)-1)=(a:Int):=by rw[q,Go.IntWalk.i64_in _ (by omega)];omega
  rw[n];refine⟨⟨by omega,by omega⟩,v,o,_,hc,g h' ⟨⟨sp,a+1,?_,m.upd u fun y f=>.inl (by have f:y=b:=f;subst f;exact i.w),x,j,rfl⟩,i.w,i.n⟩ u⟩
  rw[q,c]at d;exact d
theorem A6(i:RnAt W h b p s){K:Int→af→Prop}(j:∀h',RnAt W h' b p (kK s).2→Upd (· =b) h h'→K ((kK s).1:Int) h'):HC PG ni [.pointer (some ⟨b,0,none⟩)] [.c (.int .u64)] K h:=by
 obtain⟨sp,a,d,q,H,U,B⟩:=i.ex;have S:=q.len;have F:=i.n;have G:s.1.length=p.length-a:=by rw[B,aP]
 have f:ac .i64 ((a:Int)+8)=((a+8:Nat):Int):=by rw[Go.IntWalk.i64_in _ (by omega)];omega
 refine Gq _ ?_;unfold zj aW cp cq cu cz;refine⟨_,rfl,_,vc d 2,CondP.intro (fun c=>?_) fun c=>⟨_,rfl,_,vc d 1,_,rfl,sp,vc d 0,av (fun c1=>⟨_,rfl,i.setErr fun h' J u=>?_⟩) fun c1=>?_⟩⟩
 ·have c:s.2≠0:=by simpa using c
  have e:kK s=(0,s):=by unfold kK fV;rw[if_neg c];rfl
  rw[e]at j;exact j h i (Upd.refl _ _)
 ·have c:s.2=0:=by simpa using c
  have e:kK s=(0,s.1,9):=by unfold kK fV;rw[if_pos c,if_pos (by rw[f]at c1;omega)];rfl
  rw[e]at j;exact j h' J u
 ·have c:s.2=0:=by simpa using c
  rw[f]at c1;have e:kK s=(xF ((p.drop a).take 8),p.drop (a+8),0):=by
   unfold kK fV;rw[if_pos c,if_neg (by omega),B,cS]
  rw[e]at j;have L:((p.drop a).take 8).length=8:=by rw[aO,aP];omega
  refine LoopP.ghost (fun(g:Nat) (t:Int×Int) m=>m=h∧g≤8∧t.1=((xF (((p.drop a).take 8).drop g):Nat):Int)∧t.2=(g:Int)-1) (fun g=>g) 8 ⟨rfl,aq _,?_,rfl⟩ ?_
  ·rw[fy (by omega)];rfl
  rintro I g ⟨T,Q⟩ m ⟨rfl,X,D,C⟩ O;simp only at D C;subst D C;refine av (fun o=>?_) fun o=>?_
  ·obtain⟨g,rfl⟩:∃g',g=g'+1:=⟨g-1,by simp only at o;omega⟩
   have x:a+g<p.length:=by omega
   obtain⟨E,n,_,hc⟩:=q.at0 (aj x);have N:ac .i64 ((a:Int)+(((g+1:Nat):Int)-1))=((a+g:Nat):Int):=by rw[Go.IntWalk.i64_in _ (by omega)];omega
   refine⟨_,rfl,sp,vc d 0,_,rfl,_,vc d 1,?_⟩;rw[N];refine⟨⟨by omega,by omega⟩,E,n,_,hc,IE (O g _ _ ⟨rfl,by omega,?_,?_⟩ (by omega))⟩
   ·have ed:((p.drop a).take 8).drop g=p[a+g]::((p.drop a).take 8).drop (g+1):=by
     rw[dL (by omega),List.getElem_take,List.getElem_drop]
    have V:xF (p[a+g]::((p.drop a).take 8).drop (g+1))=p[a+g].toNat+256*xF (((p.drop a).take 8).drop (g+1)):=rfl;have d:=p[a+g].toNat_lt;have A:=EZ (p[a+g]::((p.drop a).take 8).drop (g+1));have w:(p[a+g]::((p.drop a).take 8).drop (g+1)).length≤8:=by rw[List.length_cons,aP];omega
    have P:256^(p[a+g]::((p.drop a).take 8).drop (g+1)).length≤256^8:=Nat.pow_le_pow_right (by omega) w;have R:(256:Nat)^8=18446744073709551616:=by decide
    rw[ed];show ac .u64 (ac .u64 (256*_)+ac .u64 (p[a+g].toNat:Int))=_
    rw[Go.IntWalk.u64_in (256*_) (by omega),Go.IntWalk.u64_in (p[a+g].toNat:Int) (by omega),Go.IntWalk.u64_in _ (by omega)];omega
   ·show ac .i64 (_-1)=_
    rw[Go.IntWalk.i64_in _ (by omega)];omega
  ·have v:g=0:=by simp only at o;omega
   subst v;rw[dH];refine⟨_,rfl,_,vc d 1,_,rfl,yv d (by simp) rfl fun h' k u=>j h' ⟨⟨sp,a+8,?_,q.upd u fun y z=>.inl (by have z:y=b:=z;subst z;exact i.w),H,by omega,rfl⟩,i.w,i.n⟩ u⟩
   rw[f,c]at k;exact k
theorem yC(i:RnAt W h b p s){K:Int→af→Prop}(g:∀h',RnAt W h' b p (dX s).2→Upd (· =b) h h'→K ((dX s).1:Int) h'):HC PG lO [.pointer (some ⟨b,0,none⟩)] [.c (.int .u64)] K h:=by
 obtain⟨sp,a,t,z,I,J,A⟩:=i.ex;have N:=z.len;have w:=i.n;have F:s.1.length=p.length-a:=by rw[A,aP]
 refine JU _ ?_;unfold CN cq cu cz yx;refine⟨_,rfl,_,vc t 2,CondP.intro (fun c=>?_) fun c=>⟨_,rfl,sp,vc t 0,_,rfl,_,vc t 1,D2 z w a J ?_⟩⟩
 ·have c:s.2≠0:=by simpa using c
  have e:dX s=(0,s):=by rw[dX,if_neg c]
  rw[e]at g;exact g h i (Upd.refl _ _)
 have c:s.2=0:=by simpa using c
 rw[←A];cases e:wY 0 0 s.1 with
 |none=>
  have B:dX s=(0,s.1,9):=by rw[dX,if_pos c,e]
  rw[B]at g;simp only;refine Join.plain (aX.2 ⟨_,rfl,i.setErr fun L E H=>?_⟩)
  obtain⟨C,G,m,v,u,j,x⟩:=E.ex;refine⟨_,rfl,_,vc m 1,_,rfl,yv m (by simp) rfl fun h2 d o=>g h2 ⟨⟨C,G,?_,v.upd o fun y f=>.inl (by have f:y=b:=f;subst f;exact i.w),u,j,x⟩,i.w,i.n⟩ (H.tr o)⟩
  rw[Go.IntWalk.i64_in _ (by have:=j;omega),Int.add_zero]at d;exact d
 |some q=>
  obtain⟨n,k⟩:=q;have D:=zU s.1 0 0 (by omega) (by simp) e;have B:dX s=(n,s.1.drop k,0):=by rw[dX,if_pos c,e]
  rw[B]at g;simp only;have ek:((k:Int)==0)=false:=beq_eq_false_iff_ne.2 (by omega);rw[ek];refine Join.plain (aH.2 ⟨_,rfl,_,vc t 1,_,rfl,yv t (by simp) rfl fun h2 d o=>g h2 ⟨⟨sp,a+k,?_,z.upd o fun y f=>.inl (by have f:y=b:=f;subst f;exact i.w),I,by omega,by rw[A,cS]⟩,i.w,i.n⟩ o⟩)
  rw[Go.IntWalk.i64_in _ (by omega),c]at d;exact d
end
end Go.Proofs
namespace Go.Proofs
open Go Go.Lift
structure Rn(q b:Nat)(bs:List UInt8)(s:eK)(Ss:List Sp)(h:af):Prop where
 i:RnAt (·≠q) h b bs s
 o:Own Ss h
 nb:¬AL Ss b
 nq:¬AL Ss q
 lq:q<h.size
section
variable {q b:Nat} {bs:List UInt8} {s s':eK} {Ss:List Sp} {h h':af} {a a':Sp} {M:Nat→Prop} {j p:Nat} {k:Int} {x:Hs} {c:List Value} {t:TypeId}
theorem Rn.lt(r:Rn q b bs s Ss h):b<h.size:=r.i.lt
theorem Rn.rd(r:Rn q b bs s Ss h)(i:RnAt (·≠q) h' b bs s')(u:Upd (· =b) h h'):Rn q b bs s' Ss h':=
 ⟨i,r.o.away u fun y c e=>r.nb (by have e:y=b:=e;subst e;exact c),r.nb,r.nq,aG r.lq u.size⟩
theorem Rn.up0(r:Rn q b bs s Ss h)(u:Upd No h h'):Rn q b bs s Ss h':=
 ⟨r.i.upd0 u,r.o.away u fun _ _ h=>h,r.nb,r.nq,aG r.lq u.size⟩
theorem Rn.cons(r:Rn q b bs s Ss h)(Q:a.Q h)(c:∀y,a.T y→y<h.size∧¬AL Ss y∧y≠b∧y≠q):Rn q b bs s (a::Ss) h:=
 ⟨r.i,r.o.cons Q fun y d=>⟨(c y d).1,(c y d).2.1⟩,fun e=>(xN e).elim (fun e=>(c _ e).2.2.1 rfl) r.nb,fun e=>(xN e).elim (fun e=>(c _ e).2.2.2 rfl) r.nq,r.lq⟩
theorem Rn.new(r:Rn q b bs s Ss h)(u:Upd No h h')(Q:a.Q h')(d:∀y,a.T y→h.size≤y∧y<h'.size):Rn q b bs s (a::Ss) h':=
 (r.up0 u).cons Q fun y c=>⟨(d y c).2,fun e=>by have:=r.o.al e;have:=(d y c).1;omega,fun e=>by have:=r.lt;have:=(d y c).1;omega,fun e=>by have:=r.lq;have:=(d y c).1;omega⟩
theorem Rn.set(r:Rn q b bs s Ss h)(f:Ss[j]? =some a) (u:Upd M h h') (hm:∀y,M y→a.T y∨h.size≤y) (Q:a'.Q h') (g:∀y,a'.T y→(a.T y∨h.size≤y)∧y<h'.size):Rn q b bs s (Ss.set j a') h':=by
 have d:∀{y},a.T y→AL Ss y:=fun c=>⟨a,ak f,c⟩
 have i:=r.lt;have lq:=r.lq;refine⟨r.i.upd u (fun e=>(hm _ e).elim (fun e=>r.nb (d e)) fun e=>by omega) fun y c=>.inl fun e=>?_,r.o.set f u hm Q g,fun e=>?_,fun e=>?_,aG lq u.size⟩
 ·subst e;exact(hm _ c).elim (fun e=>r.nq (d e)) fun e=>by omega
 ·exact(DC f (fun y c=>(g y c).1) b e).elim r.nb fun e=>by omega
 ·exact(DC f (fun y c=>(g y c).1) q e).elim r.nq fun e=>by omega
theorem Rn.tail(r:Rn q b bs s (a::Ss) h):Rn q b bs s Ss h:=
 ⟨r.i,r.o.tail,fun⟨z,d,c⟩=>r.nb ⟨z,aR _ d,c⟩,fun⟨z,d,c⟩=>r.nq ⟨z,aR _ d,c⟩,r.lq⟩
theorem Rn.var(r:Rn q b bs s Ss h){f:af→Prop}(e:∀h',Rn q b bs s (co h.size c t::Ss) h'→Upd No h h'→h.size<h'.size→f h'):At (hnew h c t) f:=
 bO fun g b1 k1=>e g (r.new k1 b1 fun y d=>by have d:y=h.size:=d;subst d;exact⟨aq _,bo b1⟩) k1 (bo b1)
theorem Rn.cl(r:Rn q b bs s Ss h)(j:Nat)(d:Ss[j]? =some (co p c t)) (i:Nat):bj h (adr ⟨p,0,none⟩ i)=c[i]?:=by
 have:h[p]? =some (.cells c.toArray t (0,0)):=r.o.get d;rw[vc this i];simp
theorem Rn.wr(r:Rn q b bs s Ss h)(j:Nat)(e:Ss[j]? =some (co p c t)) {i:Nat} (hi:i<c.length) {v:Value} {f:af→Prop} (k:∀h',Rn q b bs s (Ss.set j (co p (c.set i v) t)) h'→Upd (· =p) h h'→f h'):Wr h (adr ⟨p,0,none⟩ i)∧At (hset h (adr ⟨p,0,none⟩ i) v) f:=by
 have m:h[p]? =some (.cells c.toArray t (0,0)):=r.o.get e;exact yv m (c':=(c.set i v).toArray) (by simpa using hi) (by simp) fun h' g u=>k h' (r.set e u (fun y d=>.inl d) g fun y d=>⟨.inl d,by have d:y=p:=d;subst d;exact bo g⟩) u
theorem Rn.fill(r:Rn q b bs s Ss h)(j:Nat)(e:Ss[j]? =some (co p c t)) {vs:List Value} (m:vs.length=c.length) {f:af→Prop} (k:∀h',Rn q b bs s (Ss.set j (co p vs t)) h'→Upd (· =p) h h'→f h'):yr h (some ⟨p,0,none⟩) 0 vs∧At (jK h ⟨p,0,none⟩ 0 vs) f:=by
 have i:h[p]? =some (.cells c.toArray t (0,0)):=r.o.get e;exact eE i m fun h' g u=>k h' (r.set e u (fun y d=>.inl d) g fun y d=>⟨.inl d,by have d:y=p:=d;subst d;exact bo g⟩) u
theorem Rn.push{α:Type}{f:α→List Value}{e bytes:Nat}{ty:TypeId}{so:SliceV}{out:List α}{z:List Value}{y:α}(r:Rn q b bs s Ss h)(j:Nat)(n:Ss[j]? =some (bI f e ty so out)) (t:h[p]? =some (.cells (f y).toArray ty (0,0))) (i:cI (f y)=true) (o:z.length=e) (g:0<bytes∧bytes≤64*64) (v:out.length+1≤1000000)
  {K:SliceV→af→Prop} (u:∀s' h',Rn q b bs s (Ss.set j (bI f e ty s' (out++ [y]))) h'→Upd (sb so) h h'→(∀y,sb s' y→sb so y∨h.size≤y)→K s' h'):
  ∃xs,SRow h (some ⟨p,0,none⟩) (1*e) xs∧AppP (some z) e bytes ty so.a so.len so.cap 1 xs h K:=by
 have m:OwnS f e ty (sb so) h so out:=r.o.get n;refine⟨_,((OwnS.one m.ne t).sl (W:=No) fun _ _ _ h=>h).srow,?_⟩
 refine AppP.own (M:=fun y=>sb so y∨h.size≤y) (ys:= [y]) (m.more fun y c=>.inl c) rfl rfl (by simpa using i) o g.1 ?_ (.inr (aq _)) fun s' h' d k=>?_
 ·simp only[aQ]
  calc (out.length+1)*bytes≤1000000*(64*64):=Nat.mul_le_mul v g.2
   _≤140737488355328:=by omega
 ·have k:Upd (sb so) h h':=k.mono fun y c=>c
  exact u s' h' (r.set n k (fun y c=>.inl c) d.its fun y c=>d.sub y c) k fun y c=>(d.sub y c).1
theorem Rn.fillAt(r:Rn q b bs s Ss h)(j:Nat)(g:Ss[j]? =some (co p c t)) {m:Nat} {vs:List Value} (o:m+vs.length≤c.length) {f:af→Prop} (n:∀h',Rn q b bs s (Ss.set j (co p (c.take m++vs++c.drop (m+vs.length)) t)) h'→Upd (· =p) h h'→f h'):yr h (some (adr ⟨p,0,none⟩ m)) 0 vs∧At (jK h (adr ⟨p,0,none⟩ m) 0 vs) f:=by
 have i:h[p]? =some (.cells c.toArray t (0,0)):=r.o.get g;have e:=jq vs h m 0 c i (by omega);rw[bi]at e;refine⟨.inr ⟨_,rfl,fun j g=>by rw[dt,dt];exact gI i (by rw[List.size_toArray];omega)⟩,dx ?_⟩
 rw[zY,Nat.add_zero,e];have k:(h.setIfInBounds p (.cells (c.take m++vs++c.drop (m+vs.length)).toArray t (0,0)))[p]? =some (.cells (c.take m++vs++c.drop (m+vs.length)).toArray t (0,0)):=fe i;have u:=Upd.set (M:=(· =p)) h (.cells (c.take m++vs++c.drop (m+vs.length)).toArray t (0,0)) rfl
 exact n _ (r.set g u (fun y d=>.inl d) k fun y d=>⟨.inl d,by have d:y=p:=d;subst d;exact bo k⟩) u
variable {W':Nat→Prop}
theorem C9(i:RnAt W' h b bs s)(d:Nat)(hm:d≤100000)(f:Int){K:ByteArray→af→Prop}(j:∀h',RnAt W' h' b bs (dg d f s).2→Upd (· =b) h h'→K (dg d f s).1 h'):HC PG oN [.pointer (some ⟨b,0,none⟩),.int .i64 (d:Int),.int .i64 f] [.c .str] K h:=by
 obtain⟨sp,a,v,C,O,Q,A⟩:=i.ex;have V:=C.len;have B:=i.n;have L:s.1.length=bs.length-a:=by rw[A,aP]
 refine Hk _ (d:Int) f ?_;unfold AI cq cu cz yx;refine⟨_,rfl,_,vc v 2,CondP.intro (fun c=>?_) fun c=>⟨_,rfl,sp,vc v 0,_,rfl,_,vc v 1,D2 C B a Q ?_⟩⟩
 ·have c:s.2≠0:=by simpa using c
  have e:dg d f s=(⟨#[]⟩,s):=by rw[dg,if_neg c]
  rw[e]at j;exact j h i (Upd.refl _ _)
 have c:s.2=0:=by simpa using c
 rw[←A];cases e:wY 0 0 s.1 with
 |none=>
  have N:dg d f s=(⟨#[]⟩,s.1,9):=by rw[dg,if_pos c,e]
  rw[N]at j;simp only;exact aX.2 ⟨_,rfl,i.setErr fun w z o=>j w z o⟩
 |some q=>
  obtain⟨n,k⟩:=q;have G:=zU s.1 0 0 (by omega) (by simp) e;have p:dg d f s=if d<n then(⟨#[]⟩,s.1,f)else if s.1.length-k<n then(⟨#[]⟩,s.1,9)else(Sw ((s.1.drop k).take n),s.1.drop (k+n),0):=by rw[dg,if_pos c,e]
  simp only;have ek:((k:Int)==0)=false:=beq_eq_false_iff_ne.2 (by omega);rw[ek];refine aH.2 (Join.intro (fun(t:Bool) h'=>h'=h∧(t=true↔d<n)) (fun R S=>av (fun u=>?_) fun _=>S _ _ ⟨rfl,?_⟩) ?_)
  ·omega
  ·rw[Go.IntWalk.u64_in _ (by omega),decide_eq_true_iff];omega
  rintro t h' ⟨rfl,E⟩;refine CondP.intro (fun u=>⟨_,rfl,i.setErr fun w z o=>?_⟩) fun u=>⟨_,rfl,sp,vc v 0,_,rfl,_,vc v 1,?_⟩
  ·rw[if_pos (E.1 u)]at p;rw[p]at j;exact j w z o
  have u:¬d<n:=fun e=>by rw[E.2 e]at u;cases u
  rw[if_neg u]at p;have T:ac .u64 (ac .i64 (ac .i64 ((sp.len:Int)-(a:Int))-(k:Int)))=((s.1.length-k:Nat):Int):=by
   rw[Go.IntWalk.i64_in ((sp.len:Int)-(a:Int)) (by omega),Go.IntWalk.i64_in _ (by omega),Go.IntWalk.u64_in _ (by omega)];omega
  rw[T];refine IE (av (fun I=>⟨_,rfl,i.setErr fun w z o=>?_⟩) fun I=>⟨_,rfl,_,vc v 1,?_⟩)
  ·rw[if_pos (by omega)]at p;rw[p]at j;exact j w z o
  rw[if_neg (by omega)]at p;rw[p]at j;have F:ac .i64 (n:Int)=(n:Int):=Go.IntWalk.i64_in _ (by omega);have J:ac .i64 ((a:Int)+ac .i64 ((k:Int)+ac .i64 (n:Int)))=((a+k+n:Nat):Int):=by
   rw[F,Go.IntWalk.i64_in ((k:Int)+(n:Int)) (by omega),Go.IntWalk.i64_in _ (by omega)];omega
  rw[J];refine IE ⟨_,rfl,yv v (by simp) rfl fun w g o=>⟨_,rfl,sp,vc g 0,_,rfl,_,vc g 1,_,rfl,_,vc g 1,?_⟩⟩
  have H:ac .i64 (((a+k+n:Nat):Int)-ac .i64 (n:Int))=((a+k:Nat):Int):=by
   rw[F,Go.IntWalk.i64_in _ (by omega)];omega
  rw[H];have x:=C.upd o fun y D=>.inl (by have D:y=b:=D;subst D;exact i.w)
  have P:=x.sub (l:=a+k) (hi:=a+k+n) (m:=sp.cap) (c:=sp.cap-(a+k)) (by omega) (by omega) (by omega);have r:=P.srow;rw[Nat.mul_one]at r;refine⟨⟨by omega,by omega⟩,⟨by omega,by omega⟩,IE (IE (IE ⟨Sw ((s.1.drop k).take n),?_,j w ⟨⟨sp,a+k+n,by rw[c]at g;exact g,x,O,by omega,by show List.drop (k+n) s.1=_;rw[A,cS,Nat.add_assoc]⟩,i.w,i.n⟩ o⟩))⟩
  have U:(bs.drop (a+k)).take (a+k+n-(a+k))=(s.1.drop k).take n:=by rw[A,cS,Nat.add_sub_cancel_left]
  rw[U]at r;rw[Lu];exact r
theorem pz(i:RnAt W' h b bs s)(d:Nat){K:Int→af→Prop}(f:∀h',RnAt W' h' b bs (bd d s).2→Upd (· =b) h h'→K ((bd d s).1:Int) h'):HC PG ke [.pointer (some ⟨b,0,none⟩),.int .u64 (d:Int)] [.c (.int .u64)] K h:=by
 refine LH _ (d:Int) ?_;unfold Em tP;refine yC i fun m g j=>av (fun c=>uk g fun h2 n k=>?_) fun c=>?_
 ·have e:bd d s=(0,dA 9 (dX s).2):=by rw[bd,if_pos (by omega)]
  rw[e]at f;exact f h2 n (j.tr k)
 ·have e:bd d s=dX s:=by rw[bd,if_neg (by omega)]
  rw[e]at f;exact f m g j
theorem I0(i:RnAt W' h b bs s){n:Nat}{K:Bool→af→Prop}(d:K (decide (0<n∧s.2=0)) h):CondP (decide ((n:Int)>(0:Int))) (∃a14:Addr,some (⟨b,0,none⟩:Addr)=some a14∧∃v15:Int,bj h (adr a14 2)=some (.int .i64 v15)∧K (v15==(0:Int)) h) (K false h):=by
 refine av (fun c=>⟨_,rfl,_,i.err,?_⟩) fun c=>?_
 ·have e:(s.2==(0:Int))=decide (0<n∧s.2=0):=by
   rw[show(s.2==(0:Int))=decide (s.2=0)from rfl,decide_eq_decide]
   exact⟨fun e=>⟨by omega,e⟩,fun e=>e.2⟩
  rw[e];exact d
 ·have e:false=decide (0<n∧s.2=0):=by rw[eq_comm,decide_eq_false_iff_not];omega
  rw[e];exact d
theorem yF{α:Type}{f:eK→α×eK}{n:Nat}{l:List α}{s:eK}(h:s.2=0):m0 f (n+1) l s=m0 f n (l++ [(f s).1]) (f s).2:=by rw[m0,if_pos h]
theorem yE{α:Type}{f:eK→α×eK}{n:Nat}{l:List α}{s:eK}(h:¬(0<n∧s.2=0)):m0 f n l s=(l,s):=by
 cases n with
 |zero=>rfl
 |succ n=>rw[m0,if_neg fun e=>h ⟨xU _,e⟩]
theorem Mi(r:Rn q b bs s Ss h)(hn:s.1.length≤90000){K:SliceV→af→Prop}(o:∀h' sl,Rn q b bs (lw im s).2 (bI l6 2 cH sl (lw im s).1::Ss) h'→Upd (· =b) h h'→(∀y,sb sl y→h.size≤y)→K sl h'):HC PG sE [.pointer (some ⟨b,0,none⟩)] [.c .slice] K h:=by
 refine LI _ ?_;unfold En cq BL AX Fc Es;refine yC r.i fun h1 D p=>?_
 have P:=(r.rd D p).cons (a:=bI l6 2 cH dU []) (OwnS.nil Jq) fun y f=>absurd f (jc y)
 have k:=zR s;have lb:=r.lt;have Z:=p.size;unfold lw at o;refine LoopP.ghost (fun(g:Nat×List (ByteArray×Int)×eK) (t:SliceV×Int) h'=>t.2=(g.1:Int)∧g.1<18446744073709551616∧Rn q b bs g.2.2 (bI l6 2 cH t.1 g.2.1::Ss) h'∧RdN s.1.length g.2.1.length g.2.2∧Upd (· =b) h h'∧(∀y,sb t.1 y→h.size≤y)∧m0 im g.1 g.2.1 g.2.2=m0 im (dX s).1 [] (dX s).2) (fun g=>g.1) ((dX s).1,[],(dX s).2) ⟨rfl,k,P,RdN.zero (jH s).1,p,fun y f=>absurd f (jc y),rfl⟩ ?_
 rintro I ⟨n,l,j⟩ ⟨sl,t⟩ h' ⟨e,A,r,u,w,d,i⟩ N;simp only at e A r u d i;subst e;refine Join.intro (fun t h2=>h2=h'∧t=decide (0<n∧j.2=0)) (fun R H=>I0 r.i (H _ _ ⟨rfl,rfl⟩)) ?_
 rintro t h2 ⟨rfl,rfl⟩;refine av (fun c=>Join.plain (C9 r.i 32 (by omega) 9 fun V C v=>pz C 4294967295 fun X O z=>bO fun T B x=>?_)) fun c=>?_
 ·have J:=((r.rd C v).rd O z).up0 x
  have Y:=u.len0 c.2;have E:=lc 4294967295 (dg 32 9 j).2;rw[Go.IntWalk.u32_in _ (by omega)]at B;have U:=v.size;have z4:=z.size;have z5:=x.size;have S:=w.size;refine J.push (y:=(_,_)) 0 rfl B rfl rfl ⟨by decide,by decide⟩ (by omega) fun s' W G Q F=>?_
  obtain⟨m,rfl⟩:∃m,n=m+1:=⟨n-1,by omega⟩
  have L:ac .u64 (((m+1:Nat):Int)-1)=(m:Int):=by rw[Go.IntWalk.u64_in _ (by omega)];omega
  have nx:=u.next c.2 (qn j) Fz
  refine N (m,l++ [(im j).1],(im j).2) _ _ ⟨L,by omega,G,by simpa using nx,((w.tr (v.tr z)).tr x.wide).trans Q fun y f=>.inr (d y f),fun y f=>(F y f).elim (d y) fun e=>by omega,?_⟩ (by simp)
  rw[yF c.2]at i;exact i
 ·rw[yE c]at i
  rw[←i]at o;exact o h2 sl r w d
def RtOk(W:Nat→Prop)(h:af)(k:Int)(x:Hs)(t:Rt)(l:List Pr):Prop:=t.1=k∧(t.2.1=x.k0∧t.2.2.1=x.k1∧t.2.2.2.1=x.mask)∧Sl ga 2 W h t.2.2.2.2 l∧t.2.2.2.2.len≤t.2.2.2.2.cap
theorem RtOk.re{W W' M:Nat→Prop}{h d:af}{k:Int}{x:Hs}{t:Rt}{l:List Pr}(o:RtOk W h k x t l)(u:Upd M h d)(hm:∀b,M b→W b∨h.size≤b)(e:∀b,W' b→W b∨h.size≤b):RtOk W' d k x t l:=
 ⟨o.1,o.2.1,((o.2.2.1.less (W':=fun b=>W b∨h.size≤b) fun b c=>c).upd u fun b c=>.inl (hm b c)).less fun b c=>.inl (e b c),o.2.2.2⟩
theorem KD{n:Nat}{l:List Pr}{s:eK}(h:s.2=0):rC (n+1) l s=rC n (gl l s).1 (gl l s).2:=by rw[rC,if_pos h]
theorem KC{n:Nat}{l:List Pr}{s:eK}(h:¬(0<n∧s.2=0)):rC n l s=(l,s):=by
 cases n with
 |zero=>rfl
 |succ n=>rw[rC,if_neg fun e=>h ⟨xU _,e⟩]
theorem HU(r:Rn q b bs s Ss h)(hn:s.1.length≤90000){K:Rt→af→Prop}(Y:∀h' t,Rn q b bs (jh s).2 Ss h'→Upd (· =b) h h'→RtOk (fun y=>y<h.size) h' k x t (jh s).1→K t h'):
  HC PG xI [.pointer (some ⟨b,0,none⟩),.int .i64 k,.agg #[.int .u64 x.k0,.int .u64 x.k1,.int .u64 x.mask]] [.agg [.int .i64,.int .u64,.int .u64,.int .u64,.slice]] K h:=by
 refine Nm _ k (x.k0,x.k1,x.mask) ?_;unfold GG aW cp bV fA nv aC ag cq cu tP H6 cP VT AX oG jR vl6;have lb:=r.lt;refine r.var fun T r1 k1 z1=>r1.var fun h2 L k2 z2=>⟨_,L.cl 1 rfl 0,_,L.cl 1 rfl 1,_,L.cl 1 rfl 2,L.var fun h3 r3 k3 z3=>r3.fill 0 rfl (by rfl) fun h4 r4 u4=>yC r4.i fun V i5 u5=>?_⟩
 have r5:=(r4.rd i5 u5).cons (a:=bI ga 2 kq dU []) (OwnS.nil oo) fun y d=>absurd d (jc y)
 have O:=zR s;have z4:=u4.size;have z5:=u5.size;have w5:Upd (fun y=>y=b∨h.size≤y) h V:=(((k1.tr k2).tr k3).wide.tr (u4.mono fun y d=>.inl (.inr (by have d:y=h2.size:=d;omega)))).tr (u5.mono fun y d=>.inl (.inl d))
 unfold jh at Y;refine LoopP.ghost (fun(g:Nat×List Pr×eK) (t:Int) h'=>t=(g.1:Int)∧g.1<18446744073709551616∧∃sl,Rn q b bs g.2.2 (bI ga 2 kq sl g.2.1::co h2.size (UT (k,x.k0,x.k1,x.mask,sl)) rx::co T.size (UT (0,0,0,0,dU)) rx::co h.size [.int .u64 x.k0,.int .u64 x.k1,.int .u64 x.mask] xx::Ss) h'∧RdL s.1.length g.2.1 g.2.2∧Upd (fun y=>y=b∨h.size≤y) h h'∧V.size≤h'.size∧(∀y,sb sl y→V.size≤y)∧rC g.1 g.2.1 g.2.2=rC (dX s).1 [] (dX s).2) (fun g=>g.1) ((dX s).1,[],(dX s).2)
  ⟨rfl,O,dU,r5,⟨fun p hp=>(by cases hp),by have:=(jH s).1;simp only[aM];omega,fun _=>by have:=(jH s).1;simp only[aM];omega,fun _=>fG⟩,w5,aq _,fun y d=>absurd d (jc y),rfl⟩ ?_
 rintro I ⟨n,l,j⟩ t h' ⟨e,U,sl,r,G,w,z,A,D⟩ hI;simp only at e U r G D;subst e;refine Join.intro (fun t h2=>h2=h'∧t=decide (0<n∧j.2=0)) (fun R hR=>I0 r.i (hR _ _ ⟨rfl,rfl⟩)) ?_
 rintro t h6 ⟨rfl,rfl⟩;refine av (fun c=>Join.plain (C9 r.i 256 (by omega) 2 fun N i7 E=>C9 i7 4096 (by omega) 3 fun J i8 S=>((r.rd i7 E).rd i8 S).var fun h9 r9 k9 z9=>r9.fill 0 rfl (by rfl) fun Q f uA=>?_)) fun c=>?_
 ·have z7:=E.size
  have z8:=S.size;have zA:=uA.size;have hl:=G.len0 c.2;have wA:Upd (fun y=>y=b∨J.size≤y) h6 Q:=(((E.tr S).mono fun y d=>.inl (.inl d)).tr k9.wide).tr (uA.mono fun y d=>.inl (.inr (by have d:y=J.size:=d;omega)))
  refine Join.intro (fun _ h'=>Rn q b bs (gl l j).2 (co J.size (ga ((dg 256 2 j).1,(dg 4096 3 (dg 256 2 j).2).1)) kq::bI ga 2 kq sl l::co h2.size (UT (k,x.k0,x.k1,x.mask,sl)) rx::co T.size (UT (0,0,0,0,dU)) rx::co h.size [.int .u64 x.k0,.int .u64 x.k1,.int .u64 x.mask] xx::Ss) h'∧Upd (fun y=>y=b∨J.size≤y) h6 h')
   (fun R2 B=>Join.intro (fun t h'=>h'=Q∧(gl l j).2=if t=true then dA 13 (dg 4096 3 (dg 256 2 j).2).2 else(dg 4096 3 (dg 256 2 j).2).2) (fun R3 C=>⟨sl,f.cl 2 rfl 4,?_⟩) ?_) ?_
  ·have o:OwnS ga 2 kq (sb sl) Q sl l:=f.o.get (i:=1) rfl
   have hlen:=o.len;refine av (fun c=>?_) fun c=>C _ _ ⟨rfl,?_⟩
   ·have u:l.length-1<l.length:=by omega
    obtain⟨ad,X,_,hv⟩:=(o.sl (W:=No) fun _ _ _ h=>h).at (aj u)
    have Z:ac .i64 ((sl.len:Int)-1)=((l.length-1:Nat):Int):=by rw[Go.IntWalk.i64_in _ (by omega)];omega
    refine⟨sl,f.cl 2 rfl 4,sl,f.cl 2 rfl 4,?_⟩;rw[Z];have hf:=G.fit _ (List.getElem_mem u);refine⟨⟨by omega,by omega⟩,ad,X,_,hv 0 _ rfl,_,f.cl 0 rfl 0,Qs (by omega) ⟨f.cl 2 rfl 4,f.cl 2 rfl 4,f.cl 2 rfl 4,C _ _ ⟨rfl,?_⟩⟩⟩
    have eg:l.getLast? =some l[l.length-1]:=by rw[List.getLast?_eq_getElem?,aj u]
    unfold gl;rw[eg];simp only;by_cases H:Op.bytesLess l[l.length-1].1.toList (dg 256 2 j).1.toList=true
    ·rw[if_pos H,if_neg];rw[decide_eq_true (show kl _ _ from H)];decide
    ·rw[if_neg H,if_pos];rw[decide_eq_false (show ¬kl _ _ from H)];rfl
   ·have h0:l= []:=List.length_eq_zero_iff.1 (by omega)
    subst h0;rfl
  ·rintro t h' ⟨rfl,e⟩
   refine CondP.intro (fun c=>uk f.i fun h3 j3 u3=>B _ _ ⟨?_,wA.tr (u3.mono fun y d=>.inl (.inl d))⟩) fun c=>B _ _ ⟨?_,wA⟩
   ·rw[e,if_pos c];exact f.rd j3 u3
   ·rw[e,if_neg (by simpa using c)];exact f
  rintro _ hB ⟨F,wB⟩;have zB:=wB.size;refine⟨sl,F.cl 2 rfl 4,_,F.cl 0 rfl 0,_,F.cl 0 rfl 1,bO fun hC bC P=>(F.up0 P).push (y:=(_,_)) 1 rfl bC rfl rfl ⟨by decide,by decide⟩ (by omega) fun s' hD rD uD hs=>rD.wr (p:=h2.size) (i:=4) 2 rfl (by simp) fun hE rE uE=>?_⟩
  have zC:=P.size;have zD:=uD.size;obtain⟨m,rfl⟩:∃m,n=m+1:=⟨n-1,by omega⟩
  have Z:ac .u64 (((m+1:Nat):Int)-1)=(m:Int):=by rw[Go.IntWalk.u64_in _ (by omega)];omega
  have zw:=w.size;refine hI (m,(gl l j).1,(gl l j).2) _ _ ⟨Z,by omega,s',rE.tail,G.pair c.2,?_,by have:=uE.size;omega,fun y d=>(hs y d).elim (A y) fun e=>by omega,?_⟩ (by simp)
  ·exact(((w.tr (wB.mono fun y d=>.inl (d.imp id fun e=>by omega))).tr P.wide).tr (uD.mono fun y d=>.inl (.inr (by have:=A y d;omega)))).tr (uE.mono fun y d=>.inl (.inr (by have d:y=h2.size:=d;omega)))
  ·rw[KD c.2]at D;exact D
 ·rw[KC c]at D
  rw[←D]at Y;have zw:=w.size;refine⟨_,r.cl 1 rfl 0,_,r.cl 1 rfl 1,_,r.cl 1 rfl 2,_,r.cl 1 rfl 3,sl,r.cl 1 rfl 4,r.fill 2 rfl (by rfl) fun N v E=>⟨_,v.cl 2 rfl 0,_,v.cl 2 rfl 1,_,v.cl 2 rfl 2,_,v.cl 2 rfl 3,sl,v.cl 2 rfl 4,Y N (k,x.k0,x.k1,x.mask,sl) v.tail.tail.tail.tail ?_ ⟨rfl,⟨rfl,rfl,rfl⟩,?_,?_⟩⟩⟩
  ·exact(w.tr (E.mono fun y d=>.inl (.inr (by have d:y=T.size:=d;omega)))).mono fun y d=>d
  ·have o:OwnS ga 2 kq (sb sl) N sl l:=v.o.get (i:=0) rfl
   exact o.sl fun y d _ u=>by have:=A y d;omega
  ·have o:OwnS ga 2 kq (sb sl) N sl l:=v.o.get (i:=0) rfl
   exact o.cap
end
end Go.Proofs
namespace Go.Proofs
open Go Go.Lift
abbrev XV:=Int×SliceV×Rt
abbrev CX(v:XV):List Value:= [.int .u32 v.1,.slice v.2.1.a v.2.1.len v.2.1.cap]++UT v.2.2
theorem TR(v:XV):(CX v).length=7∧0<7:=⟨rfl,by decide⟩
abbrev XS:=Int×Bool×Rt
abbrev Kg(v:XS):List Value:= [.int .i64 v.1,.bool v.2.1]++UT v.2.2
theorem TT(v:XS):(Kg v).length=7∧0<7:=⟨rfl,by decide⟩
abbrev V5:Rt:=(0,0,0,0,dU)
def XvOk(W:Nat→Prop)(h:af)(k:Int)(x:Hs)(v:XV)(r:Cw):Prop:=v.1=r.1∧Nums W h v.2.1 r.2.1∧RtOk W h k x v.2.2 r.2.2
def XsOk(W:Nat→Prop)(h:af)(k:Int)(x:Hs)(v:XS)(r:Int×Bool×List Pr):Prop:=v.1=r.1∧v.2.1=r.2.1∧RtOk W h k x v.2.2 r.2.2
section
variable {W W' M:Nat→Prop} {h h':af} {k:Int} {x:Hs}
theorem XvOk.re{v:XV}{r:Cw}(o:XvOk W h k x v r)(u:Upd M h h')(hm:∀b,M b→W b∨h.size≤b)(d:∀b,W' b→W b∨h.size≤b):XvOk W' h' k x v r:=
 ⟨o.1,((o.2.1.less (W':=fun b=>W b∨h.size≤b) fun b c=>c).upd u fun b c=>.inl (hm b c)).less fun b c=>.inl (d b c),o.2.2.re u hm d⟩
theorem XsOk.re{v:XS}{r:Int×Bool×List Pr}(o:XsOk W h k x v r)(u:Upd M h h')(hm:∀b,M b→W b∨h.size≤b)(c:∀b,W' b→W b∨h.size≤b):XsOk W' h' k x v r:=
 ⟨o.1,o.2.1,o.2.2.re u hm c⟩
end
structure RnV(z q b:Nat)(bs:List UInt8)(k:Int)(x:Hs)(s:eK)(P:List Sp)(VS:List XV)(rv:List Cw)(SS:List XS)(rz:List (Int×Bool×List Pr))(h:af):Prop where
 r:Rn q b bs s P h
 v:LOk (XvOk (fun y=>y<z∨y=b∨AL P y) h k x) VS rv
 s:LOk (XsOk (fun y=>y<z∨y=b∨AL P y) h k x) SS rz
 lz:z≤h.size
section
variable {z q b pb yi:Nat} {bs:List UInt8} {k:Int} {x:Hs} {s s':eK} {P P':List Sp} {VS:List XV} {rv:List Cw} {SS:List XS} {rz:List (Int×Bool×List Pr)} {h h':af} {M:Nat→Prop} {nx last:Int} {vs bx tx ss:SliceV} {BS TS:List (ByteArray×Int)}
theorem RnV.go(R:RnV z q b bs k x s P VS rv SS rz h)(i:Rn q b bs s' P' h')(u:Upd M h h')(hm:∀y,M y→(y=b∨AL P y)∨h.size≤y)(g:∀y,AL P' y→AL P y∨h.size≤y):RnV z q b bs k x s' P' VS rv SS rz h':=by
 have f:∀y,(y<z∨y=b∨AL P' y)→(y<z∨y=b∨AL P y)∨h.size≤y:=fun y d=>by
  rcases d with e|e|e
  ·exact .inl (.inl e)
  ·exact .inl (.inr (.inl e))
  ·exact(g y e).imp (fun e=>.inr (.inr e)) id
 have c:∀y,M y→(y<z∨y=b∨AL P y)∨h.size≤y:=fun y d=>(hm y d).imp (fun e=>.inr e) id
 exact⟨i,R.v.imp fun v r o=>o.re u c f,R.s.imp fun v r o=>o.re u c f,Nat.le_trans R.lz u.size⟩
theorem RnV.rd(R:RnV z q b bs k x s P VS rv SS rz h)(i:RnAt (·≠q) h' b bs s')(u:Upd (· =b) h h'):RnV z q b bs k x s' P VS rv SS rz h':=
 R.go (R.r.rd i u) u (fun y c=>.inl (.inl c)) fun y c=>.inl c
theorem RnV.wr(R:RnV z q b bs k x s P VS rv SS rz h){p:Nat}{c:List Value}{t:TypeId}(j:Nat)(e:P[j]? =some (co p c t)) {i:Nat} (hi:i<c.length) {v:Value} {f:af→Prop} (m:∀h',RnV z q b bs k x s (P.set j (co p (c.set i v) t)) VS rv SS rz h'→Upd (· =p) h h'→f h'):Wr h (adr ⟨p,0,none⟩ i)∧At (hset h (adr ⟨p,0,none⟩ i) v) f:=
 R.r.wr j e hi fun h' g u=>m h' (R.go g u (fun y d=>.inl (.inr ⟨_,ak e,d⟩)) fun y d=>DC (s':=co p (c.set i v) t) e (fun y d=>.inl d) y d) u
theorem RnV.named(R:RnV z q b bs k x s P VS rv SS rz h)(g:s.1.length≤90000){K:SliceV→af→Prop}(f:∀h' sl,RnV z q b bs k x (lw im s).2 (bI l6 2 cH sl (lw im s).1::P) VS rv SS rz h'→Upd (· =b) h h'→(∀y,sb sl y→h.size≤y)→K sl h'):HC PG sE [.pointer (some ⟨b,0,none⟩)] [.c .slice] K h:=
 Mi R.r g fun h' sl i u d=>f h' sl (R.go i u (fun y c=>.inl (.inl c)) fun y c=>(xN c).elim (fun e=>.inr (d y e)) .inl) u d
end
end Go.Proofs
