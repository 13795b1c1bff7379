/- A part of the proof that the named laws of this program answer true, whatever the input. -/
import Derived.Test.YtopdngagmfanlaaGreatDoorPart4
import Derived.Test.YtopdngagmfanlaaGreatDoorPart6
import Derived.Test.YtopdngagmfanlaaGreatDoorPart5
import Derived.Test.YtopdngagmfanlaaGreatDoorTreeF0
import Derived.Test.YtopdngagmfanlaaGreatDoorTreeF1
import Derived.Test.YtopdngagmfanlaaGreatDoorTreeF2
import Derived.Test.YtopdngagmfanlaaGreatDoorPart0
import Derived.Conc.LoneSelect
import Derived.KernelRfl
import Derived.Laws.Rows
import Derived.Test.YtopdngagmfanlaaGreatDoorPart1
import Derived.Shelf.Lays
import Derived.Shelf.LaysM
import Derived.Shelf.Strings.OnBuilder
import Derived.Shelf.Strconv.Itoa3
import Derived.Lib.AppendIntMem
open ByteArray renaming size_append→aZ
open Go.IntKind renaming wrap→ac
open List renaming getElem?_eq_getElem→ag,range→ee,length_cons→aG,mem_cons_self→aU,length_map→dx
open Nat renaming zero_le→be,le_refl→ax,lt_of_lt_of_le→aF,lt_or_ge→co,beq→av
open Option renaming map_eq_some_iff→eP,some→bh
namespace Go.Proofs
open Go Go.Lift
abbrev Xs(o:AE)(x:ByteArray):AE:=(o.1,x,o.2.2)
abbrev ptO(o:AE)(x:ByteArray):AE:=(o.1,o.2.1,x,o.2.2.2)
abbrev Xq(o:AE)(x:ByteArray):AE:=(o.1,o.2.1,o.2.2.1,x,o.2.2.2.2)
abbrev XO(o:AE)(x:ByteArray):AE:=(o.1,o.2.1,o.2.2.1,o.2.2.2.1,x,o.2.2.2.2.2)
abbrev Xr(o:AE)(x:Int):AE:=(o.1,o.2.1,o.2.2.1,o.2.2.2.1,o.2.2.2.2.1,x,o.2.2.2.2.2.2)
abbrev ptT(o:AE)(x:Int):AE:=(o.1,o.2.1,o.2.2.1,o.2.2.2.1,o.2.2.2.2.1,o.2.2.2.2.2.1,x,o.2.2.2.2.2.2.2)
abbrev ptS(o:AE)(x:Int):AE:=(o.1,o.2.1,o.2.2.1,o.2.2.2.1,o.2.2.2.2.1,o.2.2.2.2.2.1,o.2.2.2.2.2.2.1,x,o.2.2.2.2.2.2.2.2)
abbrev ptW(o:AE)(x:Int):AE:=(o.1,o.2.1,o.2.2.1,o.2.2.2.1,o.2.2.2.2.1,o.2.2.2.2.2.1,o.2.2.2.2.2.2.1,o.2.2.2.2.2.2.2.1,x,o.2.2.2.2.2.2.2.2.2)
section
variable {W M:Nat→Prop} {h h':ad} {b ob:Nat} {s:MQ} {o:AE}
theorem RdAt.updO(r:RdAt W h b s)(u:Upd (· =ob) h h')(c:ob≠b)(d:W ob):RdAt W h' b s:=r.upd u (fun e=>c (by have e:b=ob:=e;exact e.symm)) fun y a=>.inl (by have a:y=ob:=a;rw[a];exact d)
theorem DC{c:ad}(d:Upd (· =b) h c)(e:Upd (· =ob) c h'):Upd (fun y=>y=b∨y=ob) h h':=(d.mono fun _ a=>.inl (.inl a)).tr (e.mono fun _ a=>.inl (.inr a))
theorem Rz(r:RdAt W h b s)(c:h[ob]? =some (.cells (vi o).toArray bF (0,0))) (a:ob≠b) (j:W ob) {K:Unit→ad→Prop}
  (i:∀h',RdAt W h' b (oC s).2→h'[ob]? =some (.cells (vi (Xs o (aW (oC s).1))).toArray bF (0,0))→Upd (fun y=>y=b∨y=ob) h h'→K () h'):HC PG cI [.pointer (some ⟨b,0,none⟩),.pointer (some ⟨ob,0,none⟩),.int .i32 98] [] K h:=by
 refine eI (some ⟨b,0,none⟩) (some ⟨ob,0,none⟩) 98 ?_;unfold dU aq cq bc ci nv rV kf H6 AZ ce xq iY;refine CondP.intro (fun _=>?_) fun e=>absurd e (by decide)
 exact LM r fun m g d=>⟨_,rfl,kI (d.get c a) (by simp) rfl fun k b2 f=>i k (g.updO f a j) b2 (DC d f)⟩
theorem Rw(r:RdAt W h b s)(c:h[ob]? =some (.cells (vi o).toArray bF (0,0))) (a:ob≠b) (j:W ob) {K:Unit→ad→Prop}
  (i:∀h',RdAt W h' b (oC s).2→h'[ob]? =some (.cells (vi (ptO o (aW (oC s).1))).toArray bF (0,0))→Upd (fun y=>y=b∨y=ob) h h'→K () h'):HC PG cI [.pointer (some ⟨b,0,none⟩),.pointer (some ⟨ob,0,none⟩),.int .i32 111] [] K h:=by
 refine eI (some ⟨b,0,none⟩) (some ⟨ob,0,none⟩) 111 ?_;unfold dU aq cq bc ci nv rV kf H6 AZ ce xq iY;refine CondP.intro (fun e=>absurd e (by decide)) fun _=>CondP.intro (fun _=>?_) fun e=>absurd e (by decide)
 exact LM r fun m g d=>⟨_,rfl,kI (d.get c a) (by simp) rfl fun k b2 f=>i k (g.updO f a j) b2 (DC d f)⟩
theorem Rx(r:RdAt W h b s)(c:h[ob]? =some (.cells (vi o).toArray bF (0,0))) (a:ob≠b) (j:W ob) {K:Unit→ad→Prop}
  (i:∀h',RdAt W h' b (rC s).2→h'[ob]? =some (.cells (vi (Xq o (aW (rC s).1))).toArray bF (0,0))→Upd (fun y=>y=b∨y=ob) h h'→K () h'):HC PG cI [.pointer (some ⟨b,0,none⟩),.pointer (some ⟨ob,0,none⟩),.int .i32 107] [] K h:=by
 refine eI (some ⟨b,0,none⟩) (some ⟨ob,0,none⟩) 107 ?_;unfold dU aq cq bc ci nv rV kf H6 AZ ce xq iY;refine CondP.intro (fun e=>absurd e (by decide)) fun _=>CondP.intro (fun e=>absurd e (by decide)) fun _=>CondP.intro (fun _=>?_) fun e=>absurd e (by decide)
 exact Pg r fun m g d=>⟨_,rfl,kI (d.get c a) (by simp) rfl fun k b2 f=>i k (g.updO f a j) b2 (DC d f)⟩
theorem Rs(r:RdAt W h b s)(c:h[ob]? =some (.cells (vi o).toArray bF (0,0))) (a:ob≠b) (j:W ob) {K:Unit→ad→Prop}
  (i:∀h',RdAt W h' b (rC s).2→h'[ob]? =some (.cells (vi (XO o (aW (rC s).1))).toArray bF (0,0))→Upd (fun y=>y=b∨y=ob) h h'→K () h'):HC PG cI [.pointer (some ⟨b,0,none⟩),.pointer (some ⟨ob,0,none⟩),.int .i32 118] [] K h:=by
 refine eI (some ⟨b,0,none⟩) (some ⟨ob,0,none⟩) 118 ?_;unfold dU aq cq bc ci nv rV kf H6 AZ ce xq iY;refine CondP.intro (fun e=>absurd e (by decide)) fun _=>CondP.intro (fun e=>absurd e (by decide)) fun _=>CondP.intro (fun e=>absurd e (by decide)) fun _=>CondP.intro (fun _=>?_) fun e=>absurd e (by decide)
 exact Pg r fun m g d=>⟨_,rfl,kI (d.get c a) (by simp) rfl fun k b2 f=>i k (g.updO f a j) b2 (DC d f)⟩
theorem Ry(l:Laid h)(c:4≤b)(r:RdAt W h b s)(d:h[ob]? =some (.cells (vi o).toArray bF (0,0))) (a:ob≠b) (k:W ob) {K:Unit→ad→Prop}
  (j:∀h',RdAt W h' b (j2 4294967295 s).2→h'[ob]? =some (.cells (vi (Xr o (ac .u32 ((j2 4294967295 s).1:Int)))).toArray bF (0,0))→Upd (fun y=>y=b∨y=ob) h h'→K () h'):HC PG cI [.pointer (some ⟨b,0,none⟩),.pointer (some ⟨ob,0,none⟩),.int .i32 105] [] K h:=by
 refine eI (some ⟨b,0,none⟩) (some ⟨ob,0,none⟩) 105 ?_;unfold dU aq cq bc ci nv rV kf H6 AZ ce xq iY;refine CondP.intro (fun e=>absurd e (by decide)) fun _=>CondP.intro (fun e=>absurd e (by decide)) fun _=>CondP.intro (fun e=>absurd e (by decide)) fun _=>CondP.intro (fun e=>absurd e (by decide)) fun _=>CondP.intro (fun _=>?_) fun e=>absurd e (by decide)
 exact EU (most:=4294967295) l c (by omega) r fun n i f=>⟨_,rfl,kI (f.get d a) (by simp) rfl fun m b2 g=>j m (i.updO g a k) b2 (DC f g)⟩
theorem Rt(l:Laid h)(c:4≤b)(r:RdAt W h b s)(d:h[ob]? =some (.cells (vi o).toArray bF (0,0))) (a:ob≠b) (k:W ob) {K:Unit→ad→Prop}
  (j:∀h',RdAt W h' b (j2 4294967295 s).2→h'[ob]? =some (.cells (vi (ptT o (ac .u32 ((j2 4294967295 s).1:Int)))).toArray bF (0,0))→Upd (fun y=>y=b∨y=ob) h h'→K () h'):HC PG cI [.pointer (some ⟨b,0,none⟩),.pointer (some ⟨ob,0,none⟩),.int .i32 116] [] K h:=by
 refine eI (some ⟨b,0,none⟩) (some ⟨ob,0,none⟩) 116 ?_;unfold dU aq cq bc ci nv rV kf H6 AZ ce xq iY;refine CondP.intro (fun e=>absurd e (by decide)) fun _=>CondP.intro (fun e=>absurd e (by decide)) fun _=>CondP.intro (fun e=>absurd e (by decide)) fun _=>CondP.intro (fun e=>absurd e (by decide)) fun _=>CondP.intro (fun e=>absurd e (by decide)) fun _=>CondP.intro (fun _=>?_) fun e=>absurd e (by decide)
 exact EU (most:=4294967295) l c (by omega) r fun n i f=>⟨_,rfl,kI (f.get d a) (by simp) rfl fun m b2 g=>j m (i.updO g a k) b2 (DC f g)⟩
theorem Ru(l:Laid h)(c:4≤b)(r:RdAt W h b s)(d:h[ob]? =some (.cells (vi o).toArray bF (0,0))) (a:ob≠b) (k:W ob) {K:Unit→ad→Prop}
  (j:∀h',RdAt W h' b (j2 2147483647 s).2→h'[ob]? =some (.cells (vi (ptS o (ac .i64 ((j2 2147483647 s).1:Int)))).toArray bF (0,0))→Upd (fun y=>y=b∨y=ob) h h'→K () h'):HC PG cI [.pointer (some ⟨b,0,none⟩),.pointer (some ⟨ob,0,none⟩),.int .i32 115] [] K h:=by
 refine eI (some ⟨b,0,none⟩) (some ⟨ob,0,none⟩) 115 ?_;unfold dU aq cq bc ci nv rV kf H6 AZ ce xq iY;refine CondP.intro (fun e=>absurd e (by decide)) fun _=>CondP.intro (fun e=>absurd e (by decide)) fun _=>CondP.intro (fun e=>absurd e (by decide)) fun _=>CondP.intro (fun e=>absurd e (by decide)) fun _=>CondP.intro (fun e=>absurd e (by decide)) fun _=>CondP.intro (fun e=>absurd e (by decide)) fun _=>CondP.intro (fun _=>?_) fun e=>absurd e (by decide)
 exact EU (most:=2147483647) l c (by omega) r fun n i f=>⟨_,rfl,kI (f.get d a) (by simp) rfl fun m b2 g=>j m (i.updO g a k) b2 (DC f g)⟩
theorem Rr(l:Laid h)(c:4≤b)(r:RdAt W h b s)(d:h[ob]? =some (.cells (vi o).toArray bF (0,0))) (a:ob≠b) (k:W ob) {K:Unit→ad→Prop}
  (j:∀h',RdAt W h' b (j2 2147483647 s).2→h'[ob]? =some (.cells (vi (ptW o (ac .i64 ((j2 2147483647 s).1:Int)))).toArray bF (0,0))→Upd (fun y=>y=b∨y=ob) h h'→K () h'):HC PG cI [.pointer (some ⟨b,0,none⟩),.pointer (some ⟨ob,0,none⟩),.int .i32 119] [] K h:=by
 refine eI (some ⟨b,0,none⟩) (some ⟨ob,0,none⟩) 119 ?_;unfold dU aq cq bc ci nv rV kf H6 AZ ce xq iY;refine CondP.intro (fun e=>absurd e (by decide)) fun _=>CondP.intro (fun e=>absurd e (by decide)) fun _=>CondP.intro (fun e=>absurd e (by decide)) fun _=>CondP.intro (fun e=>absurd e (by decide)) fun _=>CondP.intro (fun e=>absurd e (by decide)) fun _=>CondP.intro (fun e=>absurd e (by decide)) fun _=>CondP.intro (fun e=>absurd e (by decide)) fun _=>CondP.intro (fun _=>?_) fun e=>absurd e (by decide)
 exact EU (most:=2147483647) l c (by omega) r fun n i f=>⟨_,rfl,kI (f.get d a) (by simp) rfl fun m b2 g=>j m (i.updO g a k) b2 (DC f g)⟩
end
end Go.Proofs
namespace Go.Proofs
open Go Go.Lift
def OZ(p:UInt8)(x:MQ×AE):MQ×AE:=
 if p=98 then((oC x.1).2,Xs x.2 (aW (oC x.1).1))
 else if p=111 then((oC x.1).2,ptO x.2 (aW (oC x.1).1))
 else if p=107 then((rC x.1).2,Xq x.2 (aW (rC x.1).1))
 else if p=118 then((rC x.1).2,XO x.2 (aW (rC x.1).1))
 else if p=105 then((j2 4294967295 x.1).2,Xr x.2 (ac .u32 ((j2 4294967295 x.1).1:Int)))
 else if p=116 then((j2 4294967295 x.1).2,ptT x.2 (ac .u32 ((j2 4294967295 x.1).1:Int)))
 else if p=115 then((j2 2147483647 x.1).2,ptS x.2 (ac .i64 ((j2 2147483647 x.1).1:Int)))
 else if p=119 then((j2 2147483647 x.1).2,ptW x.2 (ac .i64 ((j2 2147483647 x.1).1:Int)))
 else x
def FK(p:UInt8):Prop:=p=98∨p=111∨p=107∨p=118∨p=105∨p=116∨p=115∨p=119
section
variable {W M:Nat→Prop} {h h':ad} {b ob i:Nat} {s:MQ} {o:AE}
theorem Rv{p:UInt8}(g:FK p)(l:Laid h)(d:4≤b)(r:RdAt W h b s)(c:h[ob]? =some (.cells (vi o).toArray bF (0,0))) (a:ob≠b) (f:W ob) {K:Unit→ad→Prop}
  (e:∀h',RdAt W h' b (OZ p (s,o)).1→h'[ob]? =some (.cells (vi (OZ p (s,o)).2).toArray bF (0,0))→Upd (fun y=>y=b∨y=ob) h h'→K () h'):HC PG cI [.pointer (some ⟨b,0,none⟩),.pointer (some ⟨ob,0,none⟩),.int .i32 (p.toNat:Int)] [] K h:=by
 rcases g with rfl|rfl|rfl|rfl|rfl|rfl|rfl|rfl
 ·exact Rz r c a f e
 ·exact Rw r c a f e
 ·exact Rx r c a f e
 ·exact Rs r c a f e
 ·exact Ry l d r c a f e
 ·exact Rt l d r c a f e
 ·exact Ru l d r c a f e
 ·exact Rr l d r c a f e
theorem PX{p:UInt8}(a:FK p):p.toNat<128:=by
 rcases a with rfl|rfl|rfl|rfl|rfl|rfl|rfl|rfl<;>decide
theorem PY{a:List UInt8}(R:∀p∈a,FK p)(l:Laid h)(H:4≤b)(S:4≤ob)(P:4≤i)(r:RdAt W h b s)(F:h[ob]? =some (.cells (vi o).toArray bF (0,0))) (A:ob≠b) (Q:W ob) (z:i≠b) (m:i≠ob) (J:W i)
  (D:h[i]? =some (.stringIter (aW a) 0)) {Kend:ad→Prop}
  (t:∀h',RdAt W h' b (a.foldl (fun x p=>OZ p x) (s,o)).1→h'[ob]? =some (.cells (vi (a.foldl (fun x p=>OZ p x) (s,o)).2).toArray bF (0,0))→Upd (fun y=>y=b∨y=ob∨y=i) h h'→Kend h'):
  LoopP (fun(I:Unit→ad→Prop) (_:Unit) q=>NextS ⟨i,0,none⟩ q (Kend q) (fun _ B E=>HC PG cI [.pointer (some ⟨b,0,none⟩),.pointer (some ⟨ob,0,none⟩),.int .i32 (B.toNat:Int)] [] (fun(_:Unit) K=>I () K) E)) () h:=by
 refine LoopP.ghost (fun(n:Nat) (_:Unit) f=>n≤a.length∧RdAt W f b ((a.take n).foldl (fun x p=>OZ p x) (s,o)).1∧f[ob]? =some (.cells (vi ((a.take n).foldl (fun x p=>OZ p x) (s,o)).2).toArray bF (0,0))∧f[i]? =some (.stringIter (aW a) n)∧Upd (fun y=>y=b∨y=ob∨y=i) h f) (fun n=>a.length-n) 0 ⟨be _,r,F,D,Upd.refl _ _⟩ ?_
 rintro I n _ f ⟨L,G,c,j,C⟩ T;refine⟨rfl,aW a,n,j,?_⟩;by_cases u:n<a.length
 ·obtain⟨p,k⟩:∃p,a[n]? =some p:=⟨_,ag u⟩
  have v:=R p (List.mem_of_getElem? k);refine .inr ⟨p,by rw[Qm];simpa using k,PX v,?_⟩
  have w:=Upd.set (M:=(· =i)) f (b:=i) (.stringIter (aW a) (n+1)) rfl
  have g:(f.setIfInBounds i (.stringIter (aW a) (n+1)))[i]? =some (.stringIter (aW a) (n+1)):=by
   have:=bv j;simp[this]
  show HC PG cI _ _ _ (f.setIfInBounds i (.stringIter (aW a) (n+1)))
  generalize f.setIfInBounds i (.stringIter (aW a) (n+1))=h3 at w g;have e:a.take (n+1)=a.take n++ [p]:=by rw[List.take_add_one,k];rfl
  have U:Laid h3:=l.upd (C.tr (w.mono fun y d=>.inl (.inr (.inr d)))) fun y d=>by rcases d with rfl|rfl|rfl<;>assumption
  refine Rv v U H (G.upd w (fun e=>z (by have e:b=i:=e;exact e.symm)) fun y d=>.inl (by have d:y=i:=d;rw[d];exact J)) (w.get c fun e=>m (by have e:ob=i:=e;exact e.symm)) A Q fun O X V N=>?_
  refine T (n+1) () O ⟨u,?_,?_,N.get g (by rintro(e|e);exact z e;exact m e),(C.tr (w.mono fun y d=>.inl (.inr (.inr d)))).tr (N.mono fun y d=>.inl (d.imp id .inl))⟩ (by omega)
  ·rw[e,List.foldl_append];exact X
  ·rw[e,List.foldl_append];exact V
 ·have L:n=a.length:=by omega
  rw[L,List.take_length]at G c;exact .inl ⟨by rw[bq];omega,t f G c C⟩
end
end Go.Proofs
namespace Go.Proofs
open Go Go.Lift
theorem S0{sp k:Nat}{f:FuncId}{o:AE}(ek:o.1=(k:Int))(u:k<26)(v:NL[k]? =some (C5 f)) {h:ad} {K:An→ad→Prop}
  (hc:∀a b,Upd No h a→h.size≤b→b<a.size→HC PG f [.pointer (some ⟨sp,0,none⟩),TR o] MP (fun e h'=>∃M:Nat→Prop,Upd M a h'∧¬M b∧∀d,Upd (· =b) h' d→K e d) a):
  HC PG ge [.pointer (some ⟨sp,0,none⟩),TR o] MP K h:=by
 refine Dk (some ⟨sp,0,none⟩) o ?_;unfold vF ar cg aq bc aD fe xf SD Hf CV MY;refine cx fun n b1 k1=>cx fun a b2 j=>aj.2 ?_
 have c1:=j.get0 b1;refine⟨_,vc c1 0,?_⟩;rw[ek];refine SB u v fun d g=>⟨rfl,aj.2 (Sa (o:=o) (g.get0 c1) (HV.mk' ?_))⟩
 have i:=(k1.tr j).tr g;have t:=k1.size;have z:=bv b2;have x:=g.size;refine(hc d n.size i t (by omega)).mono fun e y ⟨M,s,m,p⟩=>?_
 exact Bg (c:=Q6) (e:=e) (s.get (g.get0 b2) m) fun q w=>p q w
section
variable {W:Nat→Prop} {h:ad} {sp vp:Nat} {s:VS} {sm:Option Nat} {last:Int} {pool:Option Addr} {o:AE}
abbrev M8(b:Nat)(sm:Option Nat)(last:Int)(a:Option Addr):List Value:= [.pointer (some ⟨b,0,none⟩),.map sm,.int .i64 last,.pointer a]
theorem BaseOf.is(v:VaultAt W h vp s){id:Int}{B:TD}(a:BaseOf s id B):TreeIs W h s.kind s.x B.1 B.2:=by
 rcases a with⟨_,rfl⟩|⟨_,a⟩
 ·exact v.em
 ·exact(v.ts _ (Mn a)).1
theorem Lg(v:VaultAt W h vp s)(b:h[sp]? =some (.cells (M8 vp sm last pool).toArray dj (0,0))) {K:An→ad→Prop} (z:∀h',Upd s.M h h'→VaultAt W h' vp {s with B:=if yW s.B s.L o.2.1 o.2.2.2.2.2.1 false=0 then oY s.B o.2.1 o.2.2.2.2.2.1 else s.B}→K (yW s.B s.L o.2.1 o.2.2.2.2.2.1 false,0,0,⟨#[]⟩,false,0,fP,fP,fP,fP,fP) h'):
  HC PG jc [.pointer (some ⟨sp,0,none⟩),TR o] MP K h:=by
 refine yk (some ⟨sp,0,none⟩) o ?_;unfold qU ar cg aq bc aD fe xf Hf gO CV Vv;refine cx fun p b1 k1=>cx fun x b2 n=>?_
 have d:=k1.tr n;have c1:=n.get0 b1;have m:=v.w;have j:=v.g.lt;have hM:∀y,s.M y→y<h.size:=fun y f=>j y (m y f)
 have u:=k1.size;have C:=bv b2;refine⟨_,rfl,_,vc (d.get0 b) 0,_,vc c1 1,_,vc c1 5,MZ (v.pro d) o.2.1 o.2.2.2.2.2.1 fun A q w=>Qp fun t a=>?_⟩
 have g:Upd s.M x A:=q.mono fun y f=>.inl (.inr (.inr (.inr (.inl f))))
 refine Bg (c:=Q6) (e:=(yW s.B s.L o.2.1 o.2.2.2.2.2.1 false,0,0,⟨#[]⟩,false,0,fP,fP,fP,fP,fP)) (a.get0 (g.get b2 fun e=>by have:=hM _ e;omega)) fun k i=>z k ?_ ?_
 ·exact((d.wide.tr g).tr a.wide).trans i fun y f=>.inr (by have f:y=p.size:=f;omega)
 ·exact((w.upd0 a).own hM i u C).dn m
theorem Um(v:VaultAt W h vp s){n:Nat}(e:h[n]? =some (.cells (vi o).toArray bF (0,0))) {B:TD} (i:TreeIs W h s.kind s.x B.1 B.2) {N:Nat} (z:N≤900) (q:Few N B.2) (C:o.2.2.2.1.size≤30) (E:o.2.2.2.2.1.size≤30) {K:Tr×Int→ad→Prop} (x:∀h' g,TreeIs W h' s.kind s.x g (jA (o.2.2.2.1,o.2.2.2.2.1) B.2)→Upd No h h'→K (g,0) h'):
  HC PG gR [PE B.1,.pointer (some ⟨n,0,none⟩)] [.agg [.int .i64,.int .u64,.int .u64,.int .u64,.ptr,.ptr],.c (.int .i64)] K h:=by
 refine yY B.1 ⟨n,0,none⟩ ?_;unfold rO ar bE fe xn ae ak pD mc xd;refine cx fun t b1 k1=>cx fun D b2 j=>?_
 have c1:=j.get0 b1;have p:=j.get0 (k1.get0 e);have d:=k1.tr j;have u:=k1.size;have A:=bv b2;refine⟨_,vc c1 0,_,vc c1 1,_,vc c1 2,_,vc c1 3,_,vc c1 4,_,vc c1 5,_,vc p 3,_,vc p 4,?_⟩;refine Lb (i.pro d) (Pro.lt v.g.lt d) q.up (by have:=q.len;omega) (o.2.2.2.1,o.2.2.2.2.1) (by simp only;omega) (by simp only;omega) fun w g k _ b=>cY (c:=pu CD) (vs:=pu g) (b.get0 b2) rfl fun m a f=>?_
 refine⟨_,vc a 0,_,vc a 1,_,vc a 2,_,vc a 3,_,vc a 4,_,vc a 5,x m g ?_ ((d.tr b).own f u)⟩;exact(k.updM f fun y e=>.inl (.inr (by have e:y=t.size:=e;omega))).less fun y e=>.inl (.inl e)
theorem Rj{n:ByteArray}{d:TD}{ps:List Int}{id:Int}(h:(ly s.L s.nx ps).1=(id,0)):(zY s n d ps).1=(id,0):=by
 unfold zY;rw[h,if_neg (by simp)]
theorem CL{n:ByteArray}{d:TD}{ps:List Int}:∀y,(zY s n d ps).2.M y↔s.M y:=fun y=>by unfold zY;split<;>rfl
theorem N0(v:VaultAt W h vp s)(b:h[sp]? =some (.cells (M8 vp sm last pool).toArray dj (0,0))) {J:Nat} (cy:h[J]? =some (.cells (vi o).toArray bF (0,0))) (_:¬s.M sp) {hd:Int} (S:dB s.B o.2.1=some hd) (hh:hd=0∨hd∈ids s.L) {N:Nat} (hN:N≤900) (hF:∀B,BaseOf s hd B→Few N B.2) (L:o.2.2.2.1.size≤30) (P:o.2.2.2.2.1.size≤30) {id:Int} (F:(ly s.L s.nx (nz [hd])).1=(id,0)) {K:An→ad→Prop}
  (hk:∀h' B n,BaseOf s hd B→Upd s.M h h'→VaultAt W h' vp (zY s o.2.1 (n,jA (o.2.2.2.1,o.2.2.2.2.1) B.2) (nz [hd])).2→K (0,id,0,⟨#[]⟩,false,0,fP,fP,fP,fP,fP) h'):
  HC PG nO [.pointer (some ⟨sp,0,none⟩),TR o,.func (.func gR) #[] #[.pointer (some ⟨J,0,none⟩)]] MP K h:=by
 have O:=v.w;have E:=v.g.lt;have hM:∀y,s.M y→y<h.size:=fun y a=>E y (O y a)
 refine AI (some ⟨sp,0,none⟩) o (.func (.func gR) #[] #[.pointer (some ⟨J,0,none⟩)]) ?_;unfold tn ar cg aq bc aD fe nv xf Hf iL gO CV ae ak pD mc SC CJ xd WM;refine cx fun T b3 Y=>cx fun h4 V Z=>?_
 have f:=Y.tr Z;have s3:=Y.size;have z4:=bv V;have z3:=bv b3;have U:=Z.get0 b3;refine⟨_,rfl,_,vc (f.get0 b) 0,_,vc U 1,K7 (v.upd0 f) o.2.1 ?_⟩;rw[S];refine aj.2 ⟨_,rfl,_,vc (f.get0 b) 0,H8 (v.upd0 f) hh fun B G C X=>?_⟩
 refine cx fun h6 b6 k6=>cY (c:=pu CD) (vs:=pu B.1) b6 rfl fun A i u7=>?_
 have s5:=X.size;have g:Upd No h4 A:=(X.tr k6).own u7 s5;have k:=f.tr g;have s7:=g.size;have z7:=bv i;have R:=hF B G;have H:=v.pro k;have Q:Few (N+1) (jA (o.2.2.2.1,o.2.2.2.2.1) B.2):=R.ins _ L P;refine⟨_,vc i 0,_,vc i 1,_,vc i 2,_,vc i 3,_,vc i 4,_,vc i 5,HV.mk' ?_⟩;refine Um (o:=o) H (k.get0 cy) (G.is H) hN R L P fun h8 n i8 q=>?_
 refine cY (c:=pu B.1) (vs:=pu n) (q.get0 i) rfl fun x p t=>aj.2 ?_
 have j:h.size≤C.size∧C.size<A.size:=by omega
 have w:Upd No h x:=(k.tr q).own t j.1;have v9:VaultAt (Pro W h A) x vp s:=(H.upd0 q).own hM t j.1 j.2;have i9:TreeIs (Pro W h A) x s.kind s.x n (jA (o.2.2.2.1,o.2.2.2.2.1) B.2):=i8.updM t fun y a=>.inl (.inr (by have a:y=C.size:=a;omega))
 have c9:x[h.size]? =some (.cells (vi o).toArray bF (0,0)):=t.oth (q.get0 (g.get0 U)) (by omega);refine⟨_,rfl,_,vc (w.get0 b) 0,_,vc c9 1,_,vc p 0,_,vc p 1,_,vc p 2,_,vc p 3,_,vc p 4,_,vc p 5,?_⟩;refine M0 v9 o.2.1 S (d:=(n,jA (o.2.2.2.1,o.2.2.2.2.1) B.2)) i9 Q.up Q.fits fun h10 u D=>?_
 rw[Rj F];refine Sv fun h11 m=>?_
 have nM:∀y,h.size≤y→¬s.M y:=fun y a e=>by have:=hM y e;omega
 have d9:x[T.size]? =some (.cells (AD Q6).toArray bN (0,0)):=t.oth (q.get0 (g.get0 V)) (by omega);refine Bg (c:=Q6) (e:=(0,id,0,⟨#[]⟩,false,0,fP,fP,fP,fP,fP)) (m.get0 (u.get d9 (nM _ (by omega)))) fun I z=>hk I B n G ?_ ?_
 ·exact((w.wide.tr u).tr m.wide).trans z fun y a=>.inr (by have a:y=T.size:=a;omega)
 ·exact((D.upd0 m).own (fun y a=>hM y ((CL y).1 a)) z (by omega) (by omega)).dn fun y a=>O y ((CL y).1 a)
theorem RJ(v:VaultAt W h vp s)(b:h[sp]? =some (.cells (M8 vp sm last pool).toArray dj (0,0))) (i:¬s.M sp) {hd:Int} (C:dB s.B o.2.1=some hd) (H:hd=0∨hd∈ids s.L) {N:Nat} (x:N≤900) (q:∀B,BaseOf s hd B→Few N B.2) (u:o.2.2.2.1.size≤30) (w:o.2.2.2.2.1.size≤30) {id:Int} (j:(ly s.L s.nx (nz [hd])).1=(id,0)) {K:An→ad→Prop}
  (G:∀h' B g,BaseOf s hd B→Upd s.M h h'→VaultAt W h' vp (zY s o.2.1 (g,jA (o.2.2.2.1,o.2.2.2.2.1) B.2) (nz [hd])).2→K (0,id,0,⟨#[]⟩,false,0,fP,fP,fP,fP,fP) h'):
  HC PG lh [.pointer (some ⟨sp,0,none⟩),TR o] MP K h:=by
 have k:=v.w;have f:=v.g.lt;have hM:∀y,s.M y→y<h.size:=fun y a=>f y (k y a)
 refine BU (some ⟨sp,0,none⟩) o ?_;unfold ul ar cg aq bc aD fe xf Hf CV MY;refine cx fun A b1 k1=>cx fun J b2 m=>?_
 have d:=k1.tr m;have c1:=m.get0 b1;have D:=k1.size;have z:=bv b2;refine Sa (o:=o) c1 (N0 (v.pro d) (d.get0 b) c1 i C H x q u w j fun I B g E p F=>?_)
 refine Bg (c:=Q6) (e:=(0,id,0,⟨#[]⟩,false,0,fP,fP,fP,fP,fP)) (p.get b2 fun e=>by have:=hM _ e;omega) fun t n=>G t B g E ((d.wide.tr p).trans n fun y a=>.inr (by have a:y=A.size:=a;omega)) ?_
 exact(F.own (fun y a=>hM y ((CL y).1 a)) n D z).dn fun y a=>k y ((CL y).1 a)
end
end Go.Proofs
namespace Go.Proofs
open Go Go.Lift Go.Conc Go.RowKit
theorem US{w:World}{b i:Nat}{c:Array Value}{t:TypeId}{v:Value}(h:w.heap[b]? =some (.cells c t (0,0))) (a:c[i]? =some v):w.cell? ⟨b,i,none⟩=some v:=by
 simp only[World.cell?,h];exact a
theorem mkc(w:World)(n:Nat)(h:n≤4096):(Instr.makeChan 267 (.int .i64 n)).run Tryz.prog w=.ok (.chan (some w.heap.size)) (w.alloc (.chan n #[] false 0 0 false)):=by
 have a:Tryz.prog.underlying 267=some (.chan .both 3):=by kernel_rfl
 have b:(Tryz.prog.info? 3).map (·.bytes)=some 8:=by kernel_rfl
 obtain⟨i,hi,c⟩:=eP.1 b;exact run_makeChan (P:=Tryz.prog) (w:=w) a hi .i64 n (by omega) (by rw[c];omega)
noncomputable abbrev EW:Code:=match Tryz.f141.body with|some (.seq _ (.seq _ (.seq _ (.seq (.seq _ (.block _ (.loop c))) _))))=>c|_=>.skip
noncomputable abbrev JO:Code:=match Tryz.f141.body with|some (.seq _ (.seq _ (.seq _ (.seq _ c))))=>c|_=>.skip
set_option maxRecDepth 100000 in
set_option maxHeartbeats 4000000 in
theorem Sr{n pb t:Nat}{Q:Goroutine→World→Prop}{cs:List Frame}(L:n≤4096)(z:pb≠t):∀(m i:Nat) (u p o e d f b k g q:Value) (ids:List Value) (s r:Nat) (w:World),i+m=n→ids.length=i→w.heap[pb]? =some (.cells #[.chan (some t)] 269 (0,0))→w.heap[t]? =some (.chan n ids.toArray false s r false)→
  (∀(u p o e d f b k g q:Value) (a:List Value) (s' y:Nat) (w':World),a=ids++(ee m).map (fun j=>Value.int .i64 ((i+j:Nat)+1:Int))→(w'=w∨w'=w.setChan t n a.toArray false s' y false)→w'.heap[t]? =some (.chan n a.toArray false s' y false)→LoneTo Tryz.prog Q (G ((base 141).at ⟨#[.int .i64 n,undef,.pointer none,.int .i64 0,.pointer (some ⟨pb,0,none⟩),u,.int .i64 n,.bool false,.bool false,.int .i64 n,.bool false,.bool false,.int .i64 n,.chan (some t),.agg #[.chan (some t)],.pointer (some ⟨pb,0,none⟩),.int .i64 n,.int .i64 n,p,o,e,d,f,b,k,g,q,undef],[]⟩ [.code JO]) cs) w')→
  LoneTo Tryz.prog Q (G ((base 141).at ⟨#[.int .i64 n,undef,.pointer none,.int .i64 0,.pointer (some ⟨pb,0,none⟩),u,.int .i64 n,.bool false,.bool false,.int .i64 n,.bool false,.bool false,.int .i64 n,.chan (some t),.agg #[.chan (some t)],.pointer (some ⟨pb,0,none⟩),.int .i64 n,.int .i64 i,p,o,e,d,f,b,k,g,q,undef],[]⟩ [.code EW,.inLoop EW,.inBlock 0,.code JO]) cs) w:=by
 intro m;induction m with
 |zero=>
  intro i u p o e d f b k g q ids s r w v C A hc D;have v:i=n:=by omega
  subst v;have B:¬((i:Int)<(i:Int)):=by omega
  refine LoneTo.goes (n:=9) ?_;simp only[EW,Tryz.f141];s_c stepG_seq
  s_reg
  s_op
  s_c stepG_region_end
  s_c stepG_seq
  s_cond false
  s_exit
  s_stop
  exact D _ _ _ _ _ _ _ _ _ _ ids s r w (by simp) (.inl rfl) hc
 |succ m ih=>
  intro i u p o e d f b k g q ids s r w v C A hc D;have B:((i:Int)<(n:Int)):=by omega
  have aC:=US A (i:=0) rfl;have F:ac .i64 ((i:Int)+1)=((i+1:Nat):Int):=by rw[lz (by omega)];omega
  refine LoneTo.goes (n:=21) ?_;simp only[EW,Tryz.f141];s_c stepG_seq
  s_reg
  s_op
  s_c stepG_region_end
  s_c stepG_seq
  s_cond true
  s_c stepG_skip
  s_c stepG_seq
  s_c stepG_block
  s_c stepG_seq
  s_reg
  s_op
  s_op
  s_c stepG_region_end
  s_reg
  s_op
  s_op
  s_op
  s_op
  s_op
  s_op
  s_stop
  refine LoneTo.step (step_lone_send_room (c:=t) (cap:=n) (buf:=ids.toArray) (s:=s) (r:=r) (tm:=false) (stepG_comm (cases:= #[scase t (.int .i64 ((i:Int)+1)) (.tuple #[])]) (blocking:=true) (shape:=.send) (w':=w) rfl rfl (by decide) (by simp[execOp,scase,Act.eval])) hc (by simp[C];omega)) ?_;rw[Frame.finish_at];walk_nrm
  have E:t<w.heap.size:=(Array.getElem?_eq_some_iff.1 hc).1;refine LoneTo.goes (n:=7) ?_;s_c stepG_region_end
  s_c stepG_inBlock
  s_reg
  s_op
  s_op
  s_c stepG_region_end
  s_c stepG_inLoop
  s_stop
  have H:((i:Int)+1)=((i+1:Nat):Int):=by omega
  rw[H];refine ih (i+1) _ _ _ _ _ _ _ _ _ _ (ids++ [Value.int .i64 ((i+1:Nat):Int)]) (s+1) r (w.setChan t n (ids++ [Value.int .i64 ((i+1:Nat):Int)]).toArray false (s+1) r false) (by omega) (by simp[C]) ?_ (heap_setChan _ _ _ _ _ _ _ _ E) fun u p o e d f b k g q a s' y w' e1 e2 x=>D u p o e d f b k g q a s' y w' ?_ (.inr ?_) x
  ·simp only[World.setChan,Array.getElem?_setIfInBounds]
   rw[if_neg (Ne.symm z)];exact A
  ·rw[e1,List.range_succ_eq_map]
   simp[Nat.add_comm,Nat.add_left_comm,Function.comp_def]
  ·rcases e2 with e2|e2
   ·subst e2
    rw[heap_setChan _ _ _ _ _ _ _ _ E]at x;simp only[bh.injEq,Obj.chan.injEq]at x;obtain⟨_,J,_,K,I,_⟩:=x;rw[J,K,I]
   ·rw[e2];simp[World.setChan]
set_option maxRecDepth 100000 in
set_option maxHeartbeats 4000000 in
theorem Sq{n:Nat}{w:World}(v:1≤n)(a:n≤4096):Calls Tryz.prog 141 #[.int .i64 n] w fun e w'=>e=.returned (.tuple #[.pointer (some ⟨w.heap.size+1,0,none⟩),.int .i64 0])∧∃(ids:List Value) (s r:Nat),ids=(ee n).map (fun j=>Value.int .i64 ((0+j:Nat)+1:Int))∧w'.heap[w.heap.size]? =some (.chan n ids.toArray false s r false)∧(w'=(w.alloc (.chan n #[] false 0 0 false)).alloc (.cells #[.chan (some w.heap.size)] 269 (0,0))∨w'=((w.alloc (.chan n #[] false 0 0 false)).alloc (.cells #[.chan (some w.heap.size)] 269 (0,0))).setChan w.heap.size n ids.toArray false s r false):=by
 refine calls_of_loneTo fun cs=>?_
 have e:Frame.enter Tryz.prog 141 #[.int .i64 n] .normal=(base 141).at ⟨#[.int .i64 n,undef,undef,undef,undef,undef,undef,undef,undef,undef,undef,undef,undef,undef,undef,undef,undef,undef,undef,undef,undef,undef,undef,undef,undef,undef,undef,undef],[]⟩ [.code (Tryz.f141.body.getD .skip)]:=by
  simp[Frame.enter,Frame.at,Tryz.func141,base,Tryz.f141]
 rw[e];have o:=fun w=>mkc w n a
 have c1:¬((n:Int)<1):=by omega
 have y:¬(4096<(n:Int)):=by omega
 refine LoneTo.goes (n:=33) ?_;simp only[Tryz.f141,Option.getD_some];s_c stepG_seq
 s_reg
 s_op
 s_op
 s_c stepG_region_end
 s_c stepG_seq
 s_c stepG_seq
 s_reg
 s_op
 s_op
 s_op
 s_op
 s_op
 s_op
 s_c stepG_region_end
 s_cond false
 s_c stepG_skip
 s_c stepG_seq
 s_reg
 s_op
 s_op
 s_op
 s_op
 s_op
 s_c stepG_region_end
 s_c stepG_seq
 s_c stepG_seq
 s_reg
 s_op
 s_op
 s_c stepG_region_end
 s_c stepG_block
 s_c stepG_loop
 s_stop
 have g:((w.alloc (.chan n #[] false 0 0 false)).alloc (.cells #[.chan (some w.heap.size)] 269 (0,0))).heap[w.heap.size+1]? =some (.cells #[.chan (some w.heap.size)] 269 (0,0)):=by
  have:=heap_alloc_new (w.alloc (.chan n #[] false 0 0 false)) (.cells #[.chan (some w.heap.size)] 269 (0,0));simpa using this
 have p:((w.alloc (.chan n #[] false 0 0 false)).alloc (.cells #[.chan (some w.heap.size)] 269 (0,0))).heap[w.heap.size]? =some (.chan n #[] false 0 0 false):=by
  show((w.heap.push (.chan n #[] false 0 0 false)).push (.cells #[.chan (some w.heap.size)] 269 (0,0)))[w.heap.size]? =_
  simp[Array.getElem?_push]
 refine Sr a (by omega) n 0 _ _ _ _ _ _ _ _ _ _ [] 0 0 _ (by omega) rfl g p fun x i c m d q b u f t ids s r w' e1 e2 k=>?_
 refine LoneTo.goes (n:=7) ?_;simp only[JO,Tryz.f141];s_c stepG_seq
 s_reg
 s_op
 s_op
 s_op
 s_c stepG_region_end
 s_c stepG_ret'
 s_stop
 refine LoneTo.done ⟨.returned (.tuple #[.pointer (some ⟨w.heap.size+1,0,none⟩),.int .i64 0]),_,rfl,⟨rfl,ids,s,r,by simpa[ee]using e1,k,e2⟩,rfl,rfl,rfl,rfl,_,Tryz.func141,by simp[results,Tryz.f141,Frame.at]⟩
section
variable {pb tb cb:Nat} {id:Int} {u2 u3 u4 u5 u6 u7 u8 u9 u10 u11 u12 u13 u14 u15 u16 u17 u18 u19 u20 u21 u22:Value} {Q:Goroutine→World→Prop} {cs:List Frame} {kk:List Item} {w:World}
set_option maxRecDepth 100000
end
end Go.Proofs
namespace Go.Proofs
open Go Go.Lift Go.Conc
def PoolAt(h:ad)(pb a cap:Nat)(ids:List Int):Prop:=pb≠a∧h[pb]? =some (.cells #[.chan (some a)] 269 (0,0))∧∃s r,h[a]? =some (.chan cap (ids.map fun i=>Value.int .i64 i).toArray false s r false)
theorem PoolAt.upd{M:Nat→Prop}{h h':ad}{pb c cap:Nat}{ids:List Int}(p:PoolAt h pb c cap ids)(k:Upd M h h')(d:¬M pb)(e:¬M c):PoolAt h' pb c cap ids:=let⟨n,a,s,r,b⟩:=p;⟨n,k.get a d,s,r,k.get b e⟩
theorem PoolAt.upd0{h h':ad}{pb a cap:Nat}{ids:List Int}(p:PoolAt h pb a cap ids)(k:Upd No h h'):PoolAt h' pb a cap ids:=p.upd k id id
theorem NG{n:Nat}(k:1≤n)(g:n≤4096){h:ad}{K:Option Addr×Int→ad→Prop}(b:∀h',Upd No h h'→PoolAt h' (h.size+1) h.size n ((ee n).map fun j=>((j:Nat):Int)+1)→K (some ⟨h.size+1,0,none⟩,0) h'):HC PG DX [.int .i64 n] [.c .ptr,.c (.int .i64)] K h:=by
 refine⟨fun w o=>.inl ⟨Tryz.call141 _ w,(Sq k g (w:=w)).mono ?_⟩⟩
 subst o;rintro e w' ⟨rfl,ids,s,r,e1,e2,m⟩;have k1:Upd No w.heap ((w.heap.push (.chan n #[] false 0 0 false)).push (.cells #[.chan (some w.heap.size)] 269 (0,0))):=(Upd.push No w.heap _).tr (Upd.push No _ _);have a:ids=(((ee n).map fun j=>((j:Nat):Int)+1).map fun i=>Value.int .i64 i):=by rw[e1];simp[Function.comp_def]
 have f:((w.heap.push (.chan n #[] false 0 0 false)).push (.cells #[.chan (some w.heap.size)] 269 (0,0)))[w.heap.size+1]? =some (.cells #[.chan (some w.heap.size)] 269 (0,0)):=by
  rw[Array.getElem?_push,Array.size_push,if_pos rfl]
 rcases m with rfl|rfl
 ·refine⟨⟨rfl,rfl,rfl⟩,((some ⟨w.heap.size+1,0,none⟩,0):Option Addr×Int),rfl,b _ k1 ⟨by omega,f,s,r,?_⟩⟩
  rw[←a];exact e2
 ·have c:=Upd.set (M:=(· =w.heap.size)) ((w.heap.push (.chan n #[] false 0 0 false)).push (.cells #[.chan (some w.heap.size)] 269 (0,0))) (.chan n ids.toArray false s r false) rfl
  refine⟨⟨rfl,rfl,rfl⟩,((some ⟨w.heap.size+1,0,none⟩,0):Option Addr×Int),rfl,b _ (k1.trans c fun y d=>.inr (by have d:y=w.heap.size:=d;omega)) ⟨by omega,c.get f (fun e=>by have e:w.heap.size+1=w.heap.size:=e;omega),s,r,?_⟩⟩
  rw[←a];exact e2
end Go.Proofs
namespace Go.Proofs
open Go Go.Lift
section
variable {W:Nat→Prop} {h:ad} {sp vp:Nat} {s:VS} {sm:Option Nat} {last:Int} {pool:Option Addr} {o:AE}
theorem Ue(v:VaultAt W h vp s)(b:h[sp]? =some (.cells (M8 vp sm last pool).toArray dj (0,0))) {f:FuncId} {cap:Array Value} {id:Int} (hi:id=0∨id∈ids s.L) {K:An→ad→Prop}
  (hc:∀B g,BaseOf s id B→Upd No h g→HC PG f ([PE B.1]++cap.toList) MP (fun e h'=>Upd No g h'∧∀j b,h.size≤b→b<g.size→Upd (· =b) h' j→K e j) g):
  HC PG pN [.pointer (some ⟨sp,0,none⟩),.int .u32 id,.func (.func f) #[] cap] MP K h:=by
 refine Dj (some ⟨sp,0,none⟩) id (.func (.func f) #[] cap) ?_;unfold vE ar cg aq bc aD fe nv xf SD Hf gO ae ak pD mc CJ xd;refine cx fun p b1 k1=>⟨_,rfl,_,vc (k1.get0 b) 0,H8 (v.upd0 k1) hi fun B u g m=>?_⟩
 refine cx fun j b3 z=>cY (c:=pu CD) (vs:=pu B.1) b3 rfl fun k d t=>aj.2 ?_
 have n:=m.size;have a:Upd No p k:=(m.tr z).own t n;have i:=k1.tr a;have C:=bv b1;have o:=a.size;refine⟨_,vc d 0,_,vc d 1,_,vc d 2,_,vc d 3,_,vc d 4,_,vc d 5,HV.mk' ?_⟩;refine(hc B k u i).mono fun e A ⟨y,w⟩=>?_
 exact Bg (c:=Q6) (e:=e) (y.get0 (a.get0 b1)) fun x q=>w x h.size (ax _) (by omega) q
theorem UH{W:Nat→Prop}{h:ad}{kind:Int}{x:Hs}{t:Tr}{l:List Pr}(i:TreeIs W h kind x t l)(m:∀y,W y→y<h.size)(u:eH l)(D:l.length≤60000){f:Nat}(n:h[f]? =some (.cells (vi o).toArray bF (0,0))) {K:An→ad→Prop} (A:∀h',Upd No h h'→K (0,0,0,(look l o.2.2.2.1).getD ⟨#[]⟩,(look l o.2.2.2.1).isSome,0,fP,fP,fP,fP,fP) h'):
  HC PG mL [PE t,.pointer (some ⟨f,0,none⟩)] MP K h:=by
 refine yZ t ⟨f,0,none⟩ ?_;unfold rP ar cg aq bE bc aD fe Hf ae ak mc xd;refine cx fun C v k=>cx fun B w j=>?_
 have b:=j.get0 v;have a:=k.tr j;have d:=a.size;refine⟨_,vc b 0,_,vc b 1,_,vc b 2,_,vc b 3,_,vc b 4,_,vc b 5,_,vc (a.get0 n) 3,?_⟩;refine Uc (i.upd0 a) (fun y p=>aF (m y p) d) u (by omega) o.2.2.2.1 fun E g=>?_
 have z:=k.size;exact Bg (c:=Q6) (e:=(0,0,0,(look l o.2.2.2.1).getD ⟨#[]⟩,(look l o.2.2.2.1).isSome,0,fP,fP,fP,fP,fP)) (g.get0 w) fun s q=>A s ((a.tr g).own q z)
theorem RL(v:VaultAt W h vp s)(b:h[sp]? =some (.cells (M8 vp sm last pool).toArray dj (0,0))) (hi:o.2.2.2.2.2.1=0∨o.2.2.2.2.2.1∈ids s.L) (p:∀B,BaseOf s o.2.2.2.2.2.1 B→eH B.2∧B.2.length≤60000) {K:An→ad→Prop}
  (y:∀h' B,BaseOf s o.2.2.2.2.2.1 B→Upd No h h'→K (0,0,0,(look B.2 o.2.2.2.1).getD ⟨#[]⟩,(look B.2 o.2.2.2.1).isSome,0,fP,fP,fP,fP,fP) h'):
  HC PG li [.pointer (some ⟨sp,0,none⟩),TR o] MP K h:=by
 refine BV (some ⟨sp,0,none⟩) o ?_;unfold um ar cg aq bc aD fe xf Hf CV;refine cx fun F b1 k1=>cx fun w b2 m=>?_
 have a:=k1.tr m;have c1:=m.get0 b1;have t:=k1.size;have E:=bv b2;refine⟨_,vc c1 5,Ue (cap:= #[.pointer (some ⟨h.size,0,none⟩)]) (v.upd0 a) (a.get0 b) hi fun B G j k=>?_⟩
 obtain⟨x,u⟩:=p B j;have n:=v.upd0 (a.tr k);refine UH (j.is n) n.g.lt x u (k.get0 c1) fun H f=>?_
 refine⟨f,fun z D q C A=>?_⟩
 have d:Upd No w z:=(k.tr f).own A q;refine Bg (c:=Q6) (e:=(0,0,0,(look B.2 o.2.2.2.1).getD ⟨#[]⟩,(look B.2 o.2.2.2.1).isSome,0,fP,fP,fP,fP,fP)) (d.get0 b2) fun i g=>y i B j ((a.tr d).own g t)
end
theorem PJ{W:Nat→Prop}{kind:Int}(g:kind=0∨kind=1){x:Hs}{h:ad}(z:∀y,W y→y<h.size){K:Option Addr×Int→ad→Prop}
  (B:∀h' sp b gp gm tm bm nm t sm pb cb,VaultAt (fun y=>W y∨VS.M ⟨gp,gm,tm,bm,nm,kind,x,t,[],1,[],[],[]⟩ y) h' b ⟨gp,gm,tm,bm,nm,kind,x,t,[],1,[],[],[]⟩→h'[sp]? =some (.cells (M8 b (some sm) 0 (some ⟨pb,0,none⟩)).toArray dj (0,0))→h'[sm]? =some (.map #[] 0)→PoolAt h' pb cb 16 ((ee 16).map fun j=>((j:Nat):Int)+1)→
   (∀y,VS.M ⟨gp,gm,tm,bm,nm,kind,x,t,[],1,[],[],[]⟩ y→h.size≤y∧y<cb)→h.size≤cb→cb<pb→pb<sm→sm<sp→b<cb→Upd No h h'→K (some ⟨sp,0,none⟩,0) h'):
  HC PG xM [.int .i64 kind,.agg #[.int .u64 x.k0,.int .u64 x.k1,.int .u64 x.mask]] [.c .ptr,.c (.int .i64)] K h:=by
 refine Mr kind (x.k0,x.k1,x.mask) ?_;unfold D5 rc ae yV;refine cx fun D b1 k1=>⟨_,vc b1 0,_,vc b1 1,_,vc b1 2,?_⟩
 have E:=k1.size;refine TW (W:=W) (x:=x) (fun y c=>aF (z y c) k1.size) g fun s b gp gm tm bm nm t v C zM p=>aj.2 ?_
 refine NG (n:=16) (by omega) (by omega) fun e o q=>?_
 have d:=Upd.push No e (.map #[] 0);have f:=oD e (.map #[] 0);refine Ok fun u i=>?_
 have i:u=e.push (.map #[] 0):=i;rw[←i]at d f;have F:=p.size;have A:=bv q.2.1;have w:=bv f;refine cx fun k m a=>B k u.size b gp gm tm bm nm t e.size (s.size+1) s.size (v.upd0 ((o.tr d).tr a)) m (a.get0 f) (q.upd0 (d.tr a)) (fun y c=>⟨by have:=zM y c;omega,v.size c⟩) (by omega) (by omega) A w (bv v.blk) ((((k1.tr p).tr o).tr d).tr a)
end Go.Proofs
namespace Go.Proofs
open Go Go.Lift
def formsL:List (Int×List UInt8×List UInt8):= [(0,[99,114,101,97,116,101],[98,105]),(1,[114,101,109,111,118,101],[98]),(2,[116,97,103],[98,105]),(3,[117,110,116,97,103],[98]),(4,[112,117,116],[98,107,118]),(5,[100,114,111,112],[98,107]),(6,[108,111,97,100],[98,112]),(7,[114,111,108,108,98,97,99,107],[98,105]),(8,[109,101,114,103,101],[98,111,119]),(9,[112,114,117,110,101],[]),(10,[103,101,116],[105,107]),(11,[108,105,115,116],[105]),(12,[100,105,102,102],[105,116]),(13,[112,97,116,99,104],[98,99]),(14,[98,101,103,105,110],[105]),(15,[101,100,105,116],[115,107,118]),(16,[101,114,97,115,101],[115,107]),(17,[108,111,111,107],[115,107]),(18,[102,114,101,101,122,101],[115]),(19,[99,111,109,109,105,116],[115,98]),(20,[99,108,111,115,101],[115]),(21,[110,101,97,114],[105,107,119]),(22,[114,97,110,103,101],[105,114]),(23,[104,101,97,100,115],[]),(24,[116,97,103,115],[]),(25,[118,101,114,115,105,111,110,115],[])]
abbrev N2(f:Int×List UInt8×List UInt8):List Value:= [.int .i64 f.1,.string (aW f.2.1),.string (aW f.2.2)]
theorem UL(f:Int×List UInt8×List UInt8):(N2 f).length=3∧0<3:=⟨rfl,by decide⟩
theorem SN{h:ad}{K:SliceV→ad→Prop}(a:∀h',OwnS N2 3 gv (fun y=>h.size≤y) h' ⟨some ⟨h.size,0,none⟩,26,26⟩ formsL→Upd No h h'→K ⟨some ⟨h.size,0,none⟩,26,26⟩ h'):HC PG wx [] [.c .slice] K h:=by
 refine KF ?_;unfold Cs;have b1:=bG h (formsL.flatMap N2) gv;have k1:=Upd.hnew No h (formsL.flatMap N2) gv;refine aY ?_;show K ⟨some (aJ h),26,26⟩ (hnew h (formsL.flatMap N2) gv)
 generalize hnew h (formsL.flatMap N2) gv=h1 at b1 k1;exact a h1 ⟨rfl,UL,ax _,.inr ⟨h.size,[],rfl,ax _,by rw[List.append_nil];exact b1,rfl⟩⟩ k1
abbrev Hm(k:Int):AE:=(k,⟨#[]⟩,⟨#[]⟩,⟨#[]⟩,⟨#[]⟩,0,0,0,0,false,⟨#[]⟩,⟨#[]⟩,false,fP,fP)
theorem RI{a b:List UInt8}(h:aW a=aW b):a=b:=by
 have:=congrArg (fun x:ByteArray=>x.data.toList) h
 simpa using this
theorem P0{q w:List UInt8}{ws:List (List UInt8)}(hx:q.length≤1000000)(hw:ol 32 q=w::ws)(S:∀x∈ws,x.length≤1000000){k:Nat}{kd:Int}{E:List UInt8}(hf:formsL[k]? =some (kd,w,E)) (hu:∀j f,j<k→formsL[j]? =some f→f.2.1≠w)
  (hp:∀p∈E,FK p) {oF:AE} (hr:E.foldl (fun x p=>OZ p x) ((ws,true),Hm kd)=(([],true),oF)) {h:ad} (l:Laid h) (h4:4≤h.size) {K:AE×Bool→ad→Prop} (hk:∀h',Upd No h h'→K (oF,true) h'):
  HC PG wy [.string (aW q)] [.agg [.int .i64,.str,.str,.str,.str,.int .u32,.int .u32,.int .i64,.int .i64,.bool,.str,.str,.bool,.slice,.slice],.c .bool] K h:=by
 refine KI (aW q) ?_;unfold Cv bL dE ar cg aq bE cq bc aD fe nv kf Ip ce MR Wn Wy Wz Vz;have hk26:k<26:=(List.getElem?_eq_some_iff.1 hf).1;have b1:=bG h (vi (Hm 0)) bF;have k1:=Upd.hnew No h (vi (Hm 0)) bF;have z1:=fM h (vi (Hm 0)) bF;refine aY ?_;show HC PG oK _ _ _ (hnew h (vi (Hm 0)) bF)
 generalize hnew h (vi (Hm 0)) bF=h1 at b1 k1 z1;refine Fz (by rw[bq];exact hx) fun O d ow k3=>SN fun h5 of k5=>?_
 rw[show(aW q).data.toList=q from by simp,hw]at ow
 have U:=ow.sl (W:=fun y=>O.size≤y) (fun y _ Y=>by omega)
 have Z:=ow.cap;have hsf:=of.sl (W:=fun y=>h5.size≤y) (fun y _ Y=>by omega)
 have z3:=k3.size;have z5:=k5.size;have kk:=(k1.tr k3).tr k5;refine LoopP.ghost (fun(n:Nat) (t:Int) J=>t=(n:Int)∧n≤k∧Upd No h5 J) (fun n=>k-n) 0 ⟨rfl,be _,Upd.refl _ _⟩ ?_
 rintro I n t J ⟨rfl,hn,N⟩ hI;refine aK (fun _=>Join.plain ?_) fun c=>absurd (show((n:Int)<((26:Nat):Int)) by omega) c
 obtain⟨f,u⟩:∃f,formsL[n]? =some f:=⟨_,ag (show n<formsL.length from Nat.lt_of_le_of_lt hn hk26)⟩
 obtain⟨fk,fn,fp⟩:=f;obtain⟨a,ha,_,G⟩:=(hsf.upd N fun _ h=>h.elim).at u
 have ha:a=⟨O.size,0,none⟩:=(bh.inj ha).symm;have z8:=N.size;rw[Int.toNat_natCast];refine⟨⟨by omega,show((n:Int)<((26:Nat):Int)) by omega⟩,a,by rw[ha],fk,G 0 _ rfl,aW fn,G 1 _ rfl,aW fp,G 2 _ rfl,aY ?_⟩
 have P:=bG J [.int .i64 0,.string ⟨#[]⟩,.string ⟨#[]⟩] gv;have T:=Upd.hnew No J [.int .i64 0,.string ⟨#[]⟩,.string ⟨#[]⟩] gv;have z14:=fM J [.int .i64 0,.string ⟨#[]⟩,.string ⟨#[]⟩] gv;generalize hnew J [.int .i64 0,.string ⟨#[]⟩,.string ⟨#[]⟩] gv=h14 at P T z14;refine cY (c:= [.int .i64 0,.string ⟨#[]⟩,.string ⟨#[]⟩]) (vs:=N2 (fk,fn,fp)) P rfl fun o H u15=>?_
 have C:Upd No J o:=T.own u15 (ax _);have z15:=C.size;have A:=U.upd ((k5.tr N).tr C) fun _ h=>h.elim
 obtain⟨aw,haw,_,hwc⟩:=A.at0 (g:=fun w=>Value.string (aW w)) (i:=0) (x:=w) rfl
 have hlw:=U.len;simp only[aG]at hlw;refine⟨aW fn,vc H 1,⟨by omega,by omega⟩,aw,haw,aW w,hwc,?_⟩
 rw[eG];by_cases he:fn=w
 rotate_left
 ·rw[decide_eq_false (fun e=>he (RI e))]
  have D:n<k:=by
   rcases co n k with h|h
   ·exact h
   ·have:n=k:=by omega
    subst this;rw[hf]at u;exact absurd (by injection u with e;injection e with _ e;injection e with e _;exact e.symm) he
  refine aB.2 ?_;show I (ac .i64 ((n:Int)+1)) o
  rw[dw D (by omega)];exact hI (n+1) _ _ ⟨rfl,D,N.tr C⟩ (by omega)
 ·subst he
  have D:n=k:=by
   rcases co n k with h|h
   ·exact absurd rfl (hu n _ h u)
   ·omega
  subst D;rw[hf]at u;injection u with e;injection e with e1 e;injection e with _ e2;subst e1 e2;rw[decide_eq_true rfl];refine aj.2 ⟨kd,vc H 0,aY ?_⟩;have b20:=bG o (vi (Hm 0)) bF;have X:=Upd.hnew No o (vi (Hm 0)) bF;have z20:=fM o (vi (Hm 0)) bF;generalize hnew o (vi (Hm 0)) bF=h20 at b20 X z20;refine cY (c:=vi (Hm 0)) (vs:=vi (Hm kd)) b20 rfl fun s b21 u21=>⟨⟨by omega,by omega⟩,aY ?_⟩
  have B:Upd No o s:=X.own u21 (ax _);have z21:=B.size;have L:=A.upd B fun _ h=>h.elim
  rw[show(1:Int).toNat=1 from rfl]
  have b22:=bG s [.slice (aN d.a 1 d.cap 1) (d.len-1) (d.cap-1),.bool true] kT;have z:=Upd.hnew No s [.slice (aN d.a 1 d.cap 1) (d.len-1) (d.cap-1),.bool true] kT;have z22:=fM s [.slice (aN d.a 1 d.cap 1) (d.len-1) (d.cap-1),.bool true] kT;generalize hnew s [.slice (aN d.a 1 d.cap 1) (d.len-1) (d.cap-1),.bool true] kT=h22 at b22 z z22
  refine⟨aW E,vc ((B.tr z).get0 H) 2,aY ?_⟩;have v:=Upd.push No h22 (.stringIter (aW E) 0);have V:=oD h22 (.stringIter (aW E) 0);have z24:(h22.push (.stringIter (aW E) 0)).size=h22.size+1:=by simp
  generalize h22.push (.stringIter (aW E) 0)=h24 at v V z24;have F:=(L.sub (l:=1) (hi:=d.len) (m:=d.cap) (c:=d.cap-1) (by omega) (by simp only[aG];omega) Z).upd (z.tr v) fun _ h=>h.elim
  have e3:((fn::ws).drop 1).take (d.len-1)=ws:=by show ws.take _=_;exact List.take_of_length_le (by omega)
  rw[e3]at F;have r24:RdAt (fun y=>O.size≤y) h24 s.size (ws,true):=⟨⟨⟨aN d.a 1 d.cap 1,d.len-1,d.cap-1⟩,v.get0 b22,F,by show d.len-1≤d.cap-1;omega⟩,by show O.size≤s.size;omega,S⟩
  have zb:=u21.size;have kA:Upd No h h24:=((((kk.tr N).tr C).tr B).tr z).tr v;refine PY (b:=s.size) (ob:=o.size) (i:=h22.size) hp (l.upd0 kA) (by omega) (by omega) (by omega) r24 ((z.tr v).get0 b21) (by omega) (by show O.size≤o.size;omega) (by omega) (by omega) (by show O.size≤h22.size;omega) V fun h39 r39 R Q=>?_
  rw[hr]at r39 R;obtain⟨sp,hc,hs,hl⟩:=r39.ex;have hsl:sp.len=0:=hs.len;refine Join.plain ⟨_,rfl,true,vc hc 1,aB.2 ⟨_,rfl,sp,vc hc 0,?_⟩⟩;rw[hsl];refine aB.2 (Sa R (cY (c:=vi (Hm 0)) (vs:=vi oF) (Q.get (((((((k3.tr k5).tr N).tr C).tr B).tr z).tr v).get0 b1) (show ¬(h.size=s.size∨h.size=o.size∨h.size=h22.size) by omega)) rfl fun h55 b55 u55=>Sa b55 (hk h55 ?_)))
  exact(kA.trans Q fun y Y=>.inr (by omega)).trans u55 fun y Y=>.inr (by have Y:y=h.size:=Y;omega)
end Go.Proofs
namespace Go.Proofs
open Go Go.Lift
structure OpD where
 k:Int
 b:ByteArray
 o:ByteArray
 key:ByteArray
 v:ByteArray
 i:Int
 t:Int
 s:Int
 w:Int
 back:Bool
 fr:ByteArray
 up:ByteArray
 op:Bool
 ps:List Pr
 cs:List Ch
abbrev d0(k:Int):OpD:=⟨k,⟨#[]⟩,⟨#[]⟩,⟨#[]⟩,⟨#[]⟩,0,0,0,0,false,⟨#[]⟩,⟨#[]⟩,false,[],[]⟩
abbrev lK(x:ByteArray):List UInt8:=mI x.data.toList
def rB(v:ByteArray)(is:Bool):List UInt8:=if is then lK v else[46]
def Li(v:ByteArray)(is:Bool):Bool:=is||decide (v.data.toList= [])
def Bs(c:UInt8):List (List UInt8)→List UInt8
 | []=> []
 | [w]=>w
 |w::u::l=>w++c::Bs c (u::l)
theorem nx(w:List UInt8)(ws:List (List UInt8))(a:Bool):dP (w::ws,a)=(w,(ws,a)):=rfl
abbrev kp:List UInt8:= [98,111,107,118,105,116,115,119,114,112,99]
end Go.Proofs
namespace Go.Proofs
open Go Go.Lift
end Go.Proofs
namespace Go.Proofs
open Go Go.Lift
end Go.Proofs
set_option maxRecDepth 100000
namespace Go.Proofs
open Go Go.Lift Go.Shelf
def R9:Ren:=⟨fun n=>bif av n 129 then 130 else bif av n 156 then 47 else bif av n 165 then 78 else bif av n 166 then 79 else bif av n 169 then 42 else bif av n 171 then 63 else bif av n 240 then 74 else bif av n 241 then 111 else bif av n 243 then 91 else bif av n 246 then 125 else bif av n 276 then 107 else bif av n 277 then 135 else bif av n 283 then 103 else bif av n 284 then 104 else bif av n 285 then 105 else bif av n 286 then 106 else bif av n 317 then 129 else bif av n 318 then 131 else bif av n 319 then 132 else bif av n 320 then 133 else bif av n 337 then 189 else bif av n 338 then 190 else 0,
 fun n=>bif av n 0 then 0 else bif av n 2 then 2 else bif av n 3 then 3 else bif av n 4 then 4 else bif av n 5 then 5 else bif av n 9 then 9 else bif av n 20 then 20 else bif av n 31 then 76 else bif av n 37 then 95 else bif av n 46 then 32 else bif av n 51 then 23 else bif av n 53 then 52 else bif av n 70 then 103 else bif av n 72 then 105 else bif av n 75 then 99 else bif av n 76 then 144 else bif av n 80 then 107 else bif av n 127 then 141 else bif av n 164 then 168 else bif av n 171 then 163 else bif av n 173 then 166 else bif av n 212 then 202 else bif av n 213 then 203 else bif av n 232 then 333 else bif av n 233 then 334 else 0,
 fun n=>bif av n 17 then 3 else bif av n 18 then 6 else bif av n 19 then 7 else 0⟩
theorem Hw:Lays.n156 PG R9:=by constructor<;>first|kernel_rfl|(intro w;kernel_rfl)
theorem Hv:Lays.n171 PG R9:=by constructor<;>first|kernel_rfl|(intro w;kernel_rfl)
theorem FX:LaysM.n171 PG R9:=by constructor<;>first|exact Hv|kernel_rfl|(intro w;kernel_rfl)
theorem Uz:Builder.X72 PG R9:=by constructor<;>kernel_rfl
theorem Qf:Builder.Extra PG R9:=by constructor<;>first|exact Uz|kernel_rfl|(intro w;kernel_rfl)|decide
end Go.Proofs
namespace Go.Proofs
open Go Go.Lift
section
variable {W:Nat→Prop} {h:ad} {sp vp:Nat} {s:VS} {sm:Option Nat} {last:Int} {pool:Option Addr} {o:AE}
theorem VaultAt.hM(v:VaultAt W h vp s):∀y,s.M y→y<h.size:=fun y a=>v.g.lt y (v.w y a)
theorem L9(v:VaultAt W h vp s)(b:h[sp]? =some (.cells (M8 vp sm last pool).toArray dj (0,0))) (ek:o.1=0) {K:An→ad→Prop} (m:∀h',Upd s.M h h'→VaultAt W h' vp {s with B:=if yW s.B s.L o.2.1 o.2.2.2.2.2.1 false=0 then oY s.B o.2.1 o.2.2.2.2.2.1 else s.B}→K (yW s.B s.L o.2.1 o.2.2.2.2.2.1 false,0,0,⟨#[]⟩,false,0,fP,fP,fP,fP,fP) h'):
  HC PG ge [.pointer (some ⟨sp,0,none⟩),TR o] MP K h:=
 S0 (k:=0) ek (by omega) rfl fun p j a i n=>Lg (v.pro a) (a.get0 b) fun h' u g=>⟨s.M,u,fun e=>by have:=v.hM _ e;omega,fun f d=>m f ((a.wide.tr u).trans d fun y c=>.inr (by have c:y=j:=c;omega)) ((g.own v.hM d i n).dn v.w)⟩
theorem S4(v:VaultAt W h vp s)(b:h[sp]? =some (.cells (M8 vp sm last pool).toArray dj (0,0))) (f:¬s.M sp) (ek:o.1=4) {hd:Int} (x:dB s.B o.2.1=some hd) (E:hd=0∨hd∈ids s.L) {N:Nat} (q:N≤900) (j:∀B,BaseOf s hd B→Few N B.2) (n:o.2.2.2.1.size≤30) (p:o.2.2.2.2.1.size≤30) {id:Int} (g:(ly s.L s.nx (nz [hd])).1=(id,0)) {K:An→ad→Prop}
  (D:∀h' B c,BaseOf s hd B→Upd s.M h h'→VaultAt W h' vp (zY s o.2.1 (c,jA (o.2.2.2.1,o.2.2.2.2.1) B.2) (nz [hd])).2→K (0,id,0,⟨#[]⟩,false,0,fP,fP,fP,fP,fP) h'):
  HC PG ge [.pointer (some ⟨sp,0,none⟩),TR o] MP K h:=
 S0 (k:=4) ek (by omega) rfl fun F w d C m=>RJ (v.pro d) (d.get0 b) f x E q j n p g fun h' B c A u t=>⟨s.M,u,fun e=>by have:=v.hM _ e;omega,fun z i=>D z B c A ((d.wide.tr u).trans i fun y a=>.inr (by have a:y=w:=a;omega)) ((t.own (fun y a=>v.hM y ((CL y).1 a)) i C m).dn fun y a=>v.w y ((CL y).1 a))⟩
theorem S6(v:VaultAt W h vp s)(b:h[sp]? =some (.cells (M8 vp sm last pool).toArray dj (0,0))) (ek:o.1=10) (hi:o.2.2.2.2.2.1=0∨o.2.2.2.2.2.1∈ids s.L) (c:∀B,BaseOf s o.2.2.2.2.2.1 B→eH B.2∧B.2.length≤60000) {K:An→ad→Prop}
  (f:∀h' B,BaseOf s o.2.2.2.2.2.1 B→Upd No h h'→K (0,0,0,(look B.2 o.2.2.2.1).getD ⟨#[]⟩,(look B.2 o.2.2.2.1).isSome,0,fP,fP,fP,fP,fP) h'):
  HC PG ge [.pointer (some ⟨sp,0,none⟩),TR o] MP K h:=
 S0 (k:=10) ek (by omega) rfl fun m j a e _=>RL (v.upd0 a) (a.get0 b) hi c fun h' B g u=>⟨No,u,fun h=>h,fun d i=>f d B g ((a.tr u).own i e)⟩
end
abbrev rj:ByteArray:=⟨#[109,97,105,110]⟩
end Go.Proofs
namespace Go.Proofs
open Go Go.Lift
theorem RS{h:ad}{K:ByteArray→ad→Prop}(a:K ⟨#[111,107]⟩ h):HC PG tX [.int .i64 0] [.c .str] K h:=by
 refine MD 0 ?_;unfold Eg;exact aj.2 a
abbrev iV(n:Int):Value:=.int .i64 n
theorem Qg(h:ad):MapAt kStr iV (me (me (h.push (.map #[] 0)) h.size (.string ⟨#[99,104,97,109,112]⟩) (.int .i64 0)) h.size (.string ⟨#[114,97,100,105,120]⟩) (.int .i64 1)) h.size (oY (oY [] (⟨#[99,104,97,109,112]⟩:ByteArray) (0:Int)) (⟨#[114,97,100,105,120]⟩:ByteArray) (1:Int)):=
 ((MapAt.new h).put _ _).put _ _
theorem IE(h:ad):Upd No h (me (me (h.push (.map #[] 0)) h.size (.string ⟨#[99,104,97,109,112]⟩) (.int .i64 0)) h.size (.string ⟨#[114,97,100,105,120]⟩) (.int .i64 1)):=
 ((Upd.push No h (.map #[] 0)).trans (vm (M:=(· =h.size)) _ _ _ rfl) fun y a=>.inr (by have a:y=h.size:=a;omega)).trans (vm (M:=(· =h.size)) _ _ _ rfl) fun y a=>.inr (by have a:y=h.size:=a;omega)
theorem Sn{h:ad}{d:Option Addr}{s:SliceV}(b:s.len≠5){K:ByteArray×Bool→ad→Prop}(a:∀h',Upd No h h'→K (⟨#[]⟩,false) h'):HC PG lu [.pointer d,.slice s.a s.len s.cap] [.c .str,.c .bool] K h:=by
 refine uf d s ?_;unfold pe bL dE ci rc;refine aY ⟨h.size,rfl,(MapAt.new (E:=kStr) (g:=iV) h).isMap,aY ⟨h.size,rfl,(((MapAt.new (E:=kStr) (g:=iV) h)).put _ _).isMap,aY (Join.plain (CondP.intro (fun _=>aB.2 (a _ (IE h))) fun e=>?_))⟩⟩
 have:s.len=5:=by
  have e:(s.len:Int)=5:=by simpa using e
  omega
 exact absurd this b
theorem M1{h:ad}{d:Option Addr}{s:SliceV}(b:s.len≠2){K:ByteArray×Bool→ad→Prop}(a:K (⟨#[]⟩,false) h):HC PG mO [.pointer d,.slice s.a s.len s.cap] [.c .str,.c .bool] K h:=by
 refine ze d s ?_;unfold rU bL dE ci;refine Join.plain (CondP.intro (fun _=>aB.2 a) fun e=>?_)
 have:s.len=2:=by
  have e:(s.len:Int)=2:=by simpa using e
  omega
 exact absurd this b
theorem Pf{n:Nat}(b:n<4294967296){h:ad}(l:Laid h){K:ByteArray→ad→Prop}(a:∀h',Upd No h h'→K (aW (dW n)) h'):HC PG kV [.int .u32 (n:Int)] [.c .str] K h:=by
 refine QR (n:Int) ?_;unfold Jh oq;rw[show ac .u64 (n:Int)=(n:Int)from by rw[IntKind.wrap_u64];omega]
 exact zB (by omega) l.tab a
theorem P1{W0:Nat→Prop}{h:ad}(o:∀y,W0 y→y<h.size){b:Nat}(hd:h[b]? =some (.cells #[.pointer none] gw (0,0))) (l:Laid h) (_:4≤b) {s:SliceV} {W:Nat→Prop} (v:Sl Lf 1 W h s [[111,112,101,110],[114,97,100,105,120],[48],[48],[48]]) {K:ByteArray×Bool→ad→Prop}
  (V:∀d h' sp n gp gm tm bm nm t sm pb j,VaultAt (fun y=>W0 y∨VS.M ⟨gp,gm,tm,bm,nm,1,⟨0,0,0⟩,t,[],1,[],[],[]⟩ y) d n ⟨gp,gm,tm,bm,nm,1,⟨0,0,0⟩,t,[],1,[],[],[]⟩→d[sp]? =some (.cells (M8 n (some sm) 0 (some ⟨pb,0,none⟩)).toArray dj (0,0))→
   (∀y,VS.M ⟨gp,gm,tm,bm,nm,1,⟨0,0,0⟩,t,[],1,[],[],[]⟩ y→h.size≤y∧y<j)→j<sp→Upd No h d→h'[b]? =some (.cells #[.pointer (some ⟨sp,0,none⟩)] gw (0,0))→Upd (· =b) d h'→K (⟨#[111,107]⟩,true) h'):
  HC PG lu [.pointer (some ⟨b,0,none⟩),.slice s.a s.len s.cap] [.c .str,.c .bool] K h:=by
 refine uf (some ⟨b,0,none⟩) s ?_;unfold pe bL dE ci rc;refine aY ⟨h.size,rfl,(MapAt.new (E:=kStr) (g:=iV) h).isMap,aY ⟨h.size,rfl,(((MapAt.new (E:=kStr) (g:=iV) h)).put _ _).isMap,aY ?_⟩⟩;have u:=Qg h;have k1:=IE h;generalize me (me (h.push (.map #[] 0)) h.size (.string ⟨#[99,104,97,109,112]⟩) (.int .i64 0)) h.size (.string ⟨#[114,97,100,105,120]⟩) (.int .i64 1)=h1 at u k1
 have a:=v.upd k1 fun _ h=>h.elim
 have f:s.len=5:=v.len;obtain⟨O,R,_,c0⟩:=a.at0 (g:=fun w=>Value.string (aW w)) (i:=0) rfl
 obtain⟨A,e1,_,c1⟩:=a.at0 (g:=fun w=>Value.string (aW w)) (i:=1) rfl
 refine Join.plain (CondP.intro (fun e=>absurd e (by rw[f];decide)) fun _=>⟨⟨by omega,by omega⟩,O,R,_,c0,?_⟩)
 refine CondP.intro (fun e=>absurd e (by decide+kernel)) fun _=>⟨⟨by omega,by omega⟩,A,e1,_,c1,_,_,u.get (⟨#[114,97,100,105,120]⟩:ByteArray) 0,⟨by omega,by omega⟩,?_⟩
 obtain⟨F,e2,_,H⟩:=a.at0 (g:=fun w=>Value.string (aW w)) (i:=2) rfl
 have C:uL (aW [48]).data.toList=some 0:=by
  have:uL (dW 0)=some 0:=FO (by omega);rw[sf (by omega)]at this;exact this
 refine⟨F,e2,_,H,yE (x:=aW [48]) (by decide) (l.upd0 k1) fun d c=>⟨⟨by omega,by omega⟩,?_⟩⟩
 obtain⟨G,D,_,S⟩:=(a.upd c fun _ h=>h.elim).at0 (g:=fun w=>Value.string (aW w)) (i:=3) rfl
 refine⟨G,D,_,S,yE (x:=aW [48]) (by decide) ((l.upd0 k1).upd0 c) fun h3 q=>⟨⟨by omega,by omega⟩,?_⟩⟩
 obtain⟨J,L,_,U⟩:=(a.upd (c.tr q) fun _ h=>h.elim).at0 (g:=fun w=>Value.string (aW w)) (i:=4) rfl
 refine⟨J,L,_,U,yE (x:=aW [48]) (by decide) (((l.upd0 k1).upd0 c).upd0 q) fun Z X=>?_⟩
 rw[C];have Y:dB (oY (oY [] (⟨#[99,104,97,109,112]⟩:ByteArray) (0:Int)) (⟨#[114,97,100,105,120]⟩:ByteArray) (1:Int)) (⟨#[114,97,100,105,120]⟩:ByteArray)=some 1:=by decide+kernel
 rw[Y];have k:=((k1.tr c).tr q).tr X;refine Join.plain (aj.2 (aj.2 (aj.2 (aj.2 ?_))));refine PJ (W:=W0) (kind:=1) (.inr rfl) (x:=⟨0,0,0⟩) (fun y m=>aF (o y m) k.size) fun B sp n gp gm tm bm nm t sm pb j P bs N pl hM q1 q2 q3 q4 q5 z=>⟨_,rfl,?_⟩
 have p:=(k.tr z).get0 hd;have z4:=k.size;refine kI p (by simp) rfl fun T I Q=>RS (V B T sp n gp gm tm bm nm t sm pb j P bs (fun y m=>⟨by have:=(hM y m).1;omega,(hM y m).2⟩) (by omega) (k.tr z) I Q)
end Go.Proofs
namespace Go.Proofs
open Go Go.Lift
abbrev vy(e:An):Value:=.agg (AD e).toArray
theorem qN{h:ad}{cs:List Value}{t:TypeId}{k:ad→Prop}(a:∀h1,h1[h.size]? =some (.cells cs.toArray t (0,0))→Upd No h h1→k h1):At (hnew h cs t) k:=a _ (bG ..) (Upd.hnew ..)
theorem NK{e:An}{h:ad}{K:ByteArray→ad→Prop}(a:∀h',Upd No h h'→K ⟨#[111,107]⟩ h'):HC PG qn [.int .i64 0,vy e] [.c .str] K h:=by
 refine zF 0 e ?_;unfold vd ar cg aq bc aD xf kf QV TV;refine qN fun b b1 k1=>?_
 exact aj.2 (aj.2 (Join.plain (aj.2 (aj.2 (aj.2 (aj.2 (Join.plain (aj.2 (aj.2 (aj.2 (a _ k1)))))))))))
theorem Rq{e:An}(a:e.1=0){h:ad}{K:ByteArray→ad→Prop}(b:∀h',Upd No h h'→K ⟨#[111,107]⟩ h'):HC PG j8 [.int .i64 0,vy e] [.c .str] K h:=by
 refine ue 0 e ?_;unfold qY ar cg aq bc aD xf QV TV;refine qN fun f b1 k1=>⟨e.1,vc b1 0,?_⟩
 rw[a];refine aj.2 (Join.plain (Join.plain (aj.2 (Join.plain (aj.2 (aj.2 (aj.2 (aj.2 (aj.2 (aj.2 (aj.2 (?_))))))))))));exact⟨_,vc b1 0,_,vc b1 1,_,vc b1 2,_,vc b1 3,_,vc b1 4,_,vc b1 5,_,vc b1 6,_,vc b1 7,_,vc b1 8,_,vc b1 9,_,vc b1 10,NK (e:=e) fun d c=>b d (k1.tr c)⟩
theorem L1{x:ByteArray}(hx:x.size≤3000000){h:ad}{K:ByteArray→ad→Prop}(a:K ((⟨#[105,115,32]⟩:ByteArray)++x) h):HC PG mn [.bool true,.string x] [.c .str] K h:=by
 refine Cc true x ?_;unfold wG;refine aj.2 ⟨?_,a⟩;have:(⟨#[105,115,32]⟩:ByteArray).size=3:=rfl;omega
theorem Rp{e:An}(b:e.1=0){n:Nat}(a:n<4294967296)(hi:e.2.1=(n:Int)){h:ad}(l:Laid h){K:ByteArray→ad→Prop}(d:∀h',Upd No h h'→K (((⟨#[118,101,114,115,105,111,110,32]⟩:ByteArray)++aW (dW n))++(⟨#[]⟩:ByteArray)) h'):HC PG j8 [.int .i64 4,vy e] [.c .str] K h:=by
 refine ue 4 e ?_;unfold qY ar cg aq bc aD xf QV TV;refine qN fun i b1 k1=>⟨e.1,vc b1 0,?_⟩
 rw[b];refine aj.2 (Join.plain (Join.plain (aj.2 (Join.plain (aB.2 (aB.2 (?_)))))));have c:=px (n:=n) (by omega);have j:(⟨#[118,101,114,115,105,111,110,32]⟩:ByteArray).size=8:=rfl;have k:(⟨#[]⟩:ByteArray).size=0:=rfl;have es:=bq (dW n);refine⟨e.2.1,vc b1 1,?_⟩;rw[hi];refine Pf a (l.upd0 k1) fun g f=>⟨by omega,?_,GE (d g (k1.tr f))⟩
 rw[aZ];omega
theorem PF{e:An}(c:e.1=0)(hi:e.2.2.2.2.1=true){v:ByteArray}(d:e.2.2.2.1=v)(b:v.size≤1000000){h:ad}{K:ByteArray→ad→Prop}(f:∀h',Upd No h h'→K (((⟨#[105,115,32]⟩:ByteArray)++aW (mI v.data.toList))++(⟨#[]⟩:ByteArray)) h'):HC PG j8 [.int .i64 10,vy e] [.c .str] K h:=by
 refine ue 10 e ?_;unfold qY ar cg aq bc aD xf QV TV;refine qN fun i b1 k1=>⟨e.1,vc b1 0,?_⟩
 rw[c];refine aj.2 (Join.plain (Join.plain (aj.2 (Join.plain (aj.2 (aj.2 (aj.2 (aj.2 (aj.2 (aj.2 (aB.2 (?_))))))))))));have k:(⟨#[105,115,32]⟩:ByteArray).size=3:=rfl;have j:(⟨#[]⟩:ByteArray).size=0:=rfl;have m:(aW (mI v.data.toList)).size≤2000001:=by
  rw[bq,mI];split
  ·simp
  ·rw[xF,ox];omega
 refine⟨e.2.2.2.2.1,vc b1 4,e.2.2.2.1,vc b1 3,?_⟩;rw[hi,d];refine Ap b fun g a=>⟨?_,L1 (by omega) ⟨?_,f g (k1.tr a)⟩⟩
 ·have:=a.cell0 (vc b1 4)
  rw[hi]at this;exact this
 ·rw[aZ];omega
end Go.Proofs
namespace Go.Proofs
open Go Go.Lift Go.RowKit
theorem C8{n:Int}(g: -9223372036854775808≤n)(c:n≤9223372036854775807){h:ad}(b:Tab10 h){K:ByteArray→ad→Prop}(i:∀x h',(0≤n→x=aW (dW n.toNat))→Upd No h h'→K x h'):HC PG m0 [.int .i64 n] [.c .str] K h:=by
 refine HS n ?_;unfold zS;refine HC.shelf Tryz.call63 fun w f=>?_
 subst f;obtain⟨t,m,b⟩:=b;refine(Any.strconv_Itoa FX n g c w ?_).mono fun e w' ⟨d,k,os,a⟩=>?_
 ·unfold Lib.TabIs World.var?
  rw[SL];simp[b]
 ·subst a
  refine⟨⟨rfl,rfl,rfl⟩,aW (Lib.itoa n),d,i _ _ (fun j=>?_) (vx (Lib.below_grow _ _ (ax _) _ _))⟩
  unfold Lib.itoa;rw[if_neg (by omega),ya]
theorem Ic{v:ByteArray}{is:Bool}(b:v.size≤20000){h:ad}{K:ByteArray×Bool→ad→Prop}(a:∀h',Upd No h h'→K (aW (rB v is),Li v is) h'):HC PG tW [.string v,.bool is] [.c .str,.c .bool] K h:=by
 refine MC v is ?_;unfold Ef;cases is with
 |false=>
  have:=a h (Upd.refl _ _);rw[EV];exact aB.2 this
 |true=>exact aj.2 (Ap (by omega) a)
theorem U7{M:Nat→Prop}{h:ad}{b:Nat}{w:List UInt8}(a:h[b]? =some (.cells #[.string (aW w)] cN (0,0))) (hM:M b):OwnS Lf 1 cN M h ⟨some ⟨b,0,none⟩,1,1⟩ [w]:=
 ⟨rfl,Fy,ax _,.inr ⟨b,[],rfl,hM,a,rfl⟩⟩
theorem Wp{M:Nat→Prop}{h:ad}{b:Nat}{u v w:List UInt8}(a:h[b]? =some (.cells #[.string (aW u),.string (aW v),.string (aW w)] cN (0,0))) (hM:M b):OwnS Lf 1 cN M h ⟨some ⟨b,0,none⟩,3,3⟩ [u,v,w]:=
 ⟨rfl,Fy,ax _,.inr ⟨b,[],rfl,hM,a,rfl⟩⟩
theorem M9{c:Ch}(x:c.1.size≤20000)(p:c.2.1.size≤20000)(k:c.2.2.1.size≤20000){h:ad}{K:SliceV×Bool→ad→Prop}(t:∀h' s,OwnS Lf 1 cN (fun y=>h.size≤y) h' s [lK c.1,rB c.2.1 c.2.2.2.1,rB c.2.2.1 c.2.2.2.2]→Upd No h h'→K (s,Li c.2.1 c.2.2.2.1&&Li c.2.2.1 c.2.2.2.2) h'):
  HC PG wt [.agg #[.string c.1,.string c.2.1,.string c.2.2.1,.bool c.2.2.2.1,.bool c.2.2.2.2]] [.c .slice,.c .bool] K h:=by
 refine KC c ?_;unfold Cq aq bc Va VP Wx;refine qN fun w d u=>⟨_,vc d 1,_,vc d 3,Ic p fun v i=>?_⟩
 have f:=i.get0 d;refine⟨_,vc f 2,_,vc f 4,Ic k fun z g=>⟨_,vc (g.get0 f) 0,Ap (by omega) fun o m=>qN fun n q j=>?_⟩⟩
 have b:=((u.tr i).tr g).tr m;have a:=t n ⟨some ⟨o.size,0,none⟩,3,3⟩ (Wp q b.size) (b.tr j);refine CondP.intro (fun e=>?_) fun e=>?_
 ·have e:Li c.2.1 c.2.2.2.1=true:=e
  rw[e,Bool.true_and]at a;exact a
 ·have e:Li c.2.1 c.2.2.2.1=false:=e
  rw[e,Bool.false_and]at a;exact a
theorem DF{α:Type}{l:List α}{i:Nat}(hi:i<l.length):l.take (i+1)=l.take i++ [l[i]]:=by
 rw[List.take_add_one,ag hi];rfl
section
variable {d:OpD} {sp sc:SliceV} {h:ad}
end
end Go.Proofs
namespace Go.Proofs
open Go Go.Lift Go.RowKit
theorem IH(c:UInt8):∀l:List (List UInt8),Lib.join l [c]=Bs c l
 | []=>rfl
 | [w]=>Lib.join_one w [c]
 |w::u::l=>by
  have a:=IH c (u::l);rw[Lib.join_cons]at a⊢;show w++([c]++u++Lib.joinTail [c] l)=w++c::Bs c (u::l)
  rw[←a];simp
theorem LU{m:Nat}(c:UInt8):∀l:List (List UInt8),(∀x∈l,x.length≤m)→(Bs c l).length≤l.length*(m+1)
 | [],_=>be _
 | [w],h=>by have:=h w (aU ..);show w.length≤_;simp;omega
 |w::u::l,h=>by
  have a:=LU c (u::l) fun x hx=>h x (List.mem_cons_of_mem _ hx)
  have:=h w (aU ..);show(w++c::Bs c (u::l)).length≤(l.length+1+1)*(m+1)
  rw[Nat.succ_mul,List.length_append,aG];simp only[aG]at a;omega
theorem Qh{c:UInt8}{W:Nat→Prop}{h:ad}{s:SliceV}{ws:List (List UInt8)}(m:Sl Lf 1 W h s ws)(d:∃b,s.a=some ⟨b,0,none⟩)(hc:s.len≤s.cap)(n:ws≠[])(u:ws.length≤1000000)(hm:∀x∈ws,x.length≤1000000){K:ByteArray→ad→Prop}(B:∀h',Upd No h h'→K (aW (Bs c ws)) h'):
  HC PG DY [.slice s.a s.len s.cap,.string ⟨#[c]⟩] [.c .str] K h:=by
 obtain⟨b,d⟩:=d;obtain⟨E,sl,o⟩:=s;simp only at d hc;subst d;have D:sl=ws.length:=m.len;subst D;refine HC.shelf Tryz.call47 fun w A=>?_
 subst A;have f:(ws.map aW).map (fun x:ByteArray=>x.data.toList)=ws:=by
  rw[List.map_map];conv=>rhs;rw[←List.map_id ws]
  refine List.map_congr_left fun x _=>by simp
 have q:Lib.join ((ws.map aW).map (fun x:ByteArray=>x.data.toList)) (⟨#[c]⟩:ByteArray).data.toList=Bs c ws:=by rw[f];exact IH c ws
 have p:=LU c ws hm;have v:b<w.heap.size:=by
  cases ws with
  |nil=>exact absurd rfl n
  |cons x ws=>
   obtain⟨a,d,_,k⟩:=m.at0 (g:=fun w=>Value.string (aW w)) (i:=0) (x:=x) rfl
   cases d;have:=F7 k;rwa [yN]at this
 have:=Any.strings_Join Hw Qf b 0 o (ws.map aW) ⟨#[c]⟩ w (fun j x hx=>by
  rw[List.getElem?_map]at hx
  obtain⟨y,C,rfl⟩:=eP.1 hx
  obtain⟨a,d,_,k⟩:=m.at0 (g:=fun w=>Value.string (aW w)) C
  cases d
  rw[cc,Nat.mul_one]at k
  exact k) v (by rw[dx];omega) (by rw[dx];exact hc) (by
   rw[q]
   have:ws.length*(1000000+1)≤1000000*(1000000+1):=Nat.mul_le_mul_right _ u
   omega)
 rw[dx,q]at this;exact this.mono fun e w' ⟨z,t⟩=>⟨wA t,aW (Bs c ws),z,B _ (vx t)⟩
theorem NextS.go{i:Nat}{h:ad}{s:ByteArray}{n:Nat}{b:UInt8}{Ke:Prop}{Ks:Nat→UInt8→ad→Prop}(c:h[i]? =some (.stringIter s n)) (e:s[n]? =some b) (a:b.toNat<128) (d:∀h2,Upd (· =i) h h2→h2[i]? =some (.stringIter s (n+1))→Ks n b h2):NextS ⟨i,0,none⟩ h Ke Ks:=
 ⟨rfl,s,n,c,.inr ⟨b,e,a,d _ (Upd.set _ _ rfl) (iB c)⟩⟩
theorem gQ(x:ByteArray):(lK x).length≤2*x.size+1:=by
 unfold lK mI;split
 ·simp
 ·rw[xF,ox];omega
theorem ss(v:ByteArray)(is:Bool):(rB v is).length≤2*v.size+1:=by
 unfold rB;split
 ·exact gQ v
 ·simp
end Go.Proofs
namespace Go.Proofs
open Go Go.Lift
section
variable {h:ad} {n m:ByteArray} {id p:Int} {s:SliceV} {t:Tr}
end
end Go.Proofs
namespace Go.Proofs
open Go Go.Lift Go.RowKit
theorem Tu{M:Nat→Prop}{h:ad}{c:SliceV}{out:List (List UInt8)}{w:List UInt8}{x:ByteArray}(hx:x=aW w){K:SliceV→ad→Prop}(e:OwnS Lf 1 cN M h c out)(hM:∀b,h.size≤b→M b)(i:out.length+1≤1000000)
  (f:∀s' h',OwnS Lf 1 cN M h' s' (out++ [w])→Upd M h h'→K s' h'):
  At (hnew h [.string x] cN) fun a=>∃xs,SRow a (some (aJ h)) (1*1) xs∧AppP (some [.string ⟨#[]⟩]) 1 16 cN c.a c.len c.cap 1 xs a K:=by
 subst hx;refine qN fun a b1 k1=>?_
 have d:=k1.size;have g:OwnS Lf 1 cN (fun _=>True) a ⟨some (aJ h),1,1⟩ [w]:=U7 b1 trivial
 exact⟨_,(g.sl (W:=No) fun _ _ _ h=>h).srow,AppP.own (ys:= [w]) (e.upd k1 fun _ _ h=>h) rfl rfl rfl rfl (by omega) (by simp only[aG,List.length_nil];omega) (hM _ d) fun s' h' o u=>f s' h' o (k1.wide.tr u)⟩
theorem FI{v:ByteArray}{is:Bool}(b:v.size≤20000){h:ad}{K:ByteArray→ad→Prop}(a:∀h',Upd No h h'→K (aW (rB v is)) h'):HC PG wq [.string v,.bool is] [.c .str] K h:=by
 refine Ow v is ?_;unfold GV;cases is with
 |false=>exact aB.2 (a h (Upd.refl _ _))
 |true=>exact aj.2 (su (by omega) a)
theorem or2{v a b:Int}{h:ad}{P:Bool→ad→Prop}(c:P (v==a||v==b) h):CondP (v==a) (P (v==a) h) (P (v==b) h):=
 CondP.intro (fun e=>by rw[e]at c⊢;exact c) fun e=>by rw[e]at c;exact c
theorem SE{v a b:Int}{h:ad}{R:Bool→ad→Prop}(c:R (v==a||v==b) h):Join R (fun J=>CondP (v==a) (J (v==a) h) (J (v==b) h)):=
 Join.plain (or2 (P:=R) c)
def blk(l:List (List UInt8)):List UInt8:=l.flatMap fun w=>32::w
theorem Pv(a b:List (List UInt8)):blk (a++b)=blk a++blk b:=by unfold blk;rw[List.flatMap_append]
end Go.Proofs
namespace Go.Proofs
open Go Go.Lift Go.RowKit
section
variable {d:OpD} {sp sc:SliceV} {h:ad}
end
end Go.Proofs
namespace Go.Proofs
open Go Go.Lift Go.RowKit
end Go.Proofs
namespace Go.Proofs
open Go Go.Lift Go.RowKit
section
variable {W:Nat→Prop} {h:ad} {b ob:Nat} {s:MQ} {d:OpD} {sp sc:SliceV}
end
end Go.Proofs
