/- A part of the proof that the named laws of this program answer true, whatever the input. -/
import Derived.Test.YtopdngagmfanlaaGreatDoorPart4
import Derived.Test.YtopdngagmfanlaaGreatDoorPart6
import Derived.Test.YtopdngagmfanlaaGreatDoorPart5
import Derived.Test.YtopdngagmfanlaaGreatDoorTreeF0
import Derived.Test.YtopdngagmfanlaaGreatDoorTreeF1
import Derived.Test.YtopdngagmfanlaaGreatDoorTreeF2
import Derived.Test.YtopdngagmfanlaaGreatDoorPart0
import Derived.Conc.LoneSelect
import Derived.KernelRfl
import Derived.Laws.Rows
import Derived.Test.YtopdngagmfanlaaGreatDoorPart1
open Bool renaming and_eq_true→aJ
open Go.IntKind renaming wrap→ac
open List renaming getElem?_eq_getElem→ah,foldl_append→mn,range→eN,append_nil→cE,length_cons→ay,mem_cons→ar,not_mem_nil→bX,mem_cons_self→aP,mem_cons_of_mem→aK,find?_eq_none→jt,find?_some→sg,mem_of_find?_eq_some→fG,all_eq_true→kK
open Nat renaming zero_le→aV,le_refl→av,lt_of_lt_of_le→aQ,lt_of_le_of_lt→fT,lt_or_ge→cC
open Option renaming map_eq_some_iff→eA,some→bq
namespace Go.Proofs
open Go Go.Lift
abbrev aaz(o:xm)(x:ByteArray):xm:=(o.1,x,o.2.2)
abbrev ptO(o:xm)(x:ByteArray):xm:=(o.1,o.2.1,x,o.2.2.2)
abbrev aax(o:xm)(x:ByteArray):xm:=(o.1,o.2.1,o.2.2.1,x,o.2.2.2.2)
abbrev aaX(o:xm)(x:ByteArray):xm:=(o.1,o.2.1,o.2.2.1,o.2.2.2.1,x,o.2.2.2.2.2)
abbrev aay(o:xm)(x:Int):xm:=(o.1,o.2.1,o.2.2.1,o.2.2.2.1,o.2.2.2.2.1,x,o.2.2.2.2.2.2)
abbrev ptT(o:xm)(x:Int):xm:=(o.1,o.2.1,o.2.2.1,o.2.2.2.1,o.2.2.2.2.1,o.2.2.2.2.2.1,x,o.2.2.2.2.2.2.2)
abbrev ptS(o:xm)(x:Int):xm:=(o.1,o.2.1,o.2.2.1,o.2.2.2.1,o.2.2.2.2.1,o.2.2.2.2.2.1,o.2.2.2.2.2.2.1,x,o.2.2.2.2.2.2.2.2)
abbrev ptW(o:xm)(x:Int):xm:=(o.1,o.2.1,o.2.2.1,o.2.2.2.1,o.2.2.2.2.1,o.2.2.2.2.2.1,o.2.2.2.2.2.2.1,o.2.2.2.2.2.2.2.1,x,o.2.2.2.2.2.2.2.2.2)
section
variable {W M:Nat→Prop} {h h':ad} {b ob:Nat} {s:rB} {o:xm}
theorem RdAt.updO(r:RdAt W h b s)(u:Upd (· =ob) h h')(c:ob≠b)(d:W ob):RdAt W h' b s:=r.upd u (fun e=>c (by have e:b=ob:=e;exact e.symm)) fun y a=>.inl (by have a:y=ob:=a;rw[a];exact d)
theorem ya{c:ad}(e:Upd (· =b) h c)(d:Upd (· =ob) c h'):Upd (fun y=>y=b∨y=ob) h h':=(e.mono fun _ a=>.inl (.inl a)).tr (d.mono fun _ a=>.inl (.inr a))
theorem M7(r:RdAt W h b s)(c:h[ob]? =some (.cells (gn o).toArray aL (0,0))) (a:ob≠b) (j:W ob) {K:Unit→ad→Prop}
  (g:∀h',RdAt W h' b (gT s).2→h'[ob]? =some (.cells (gn (aaz o (aG (gT s).1))).toArray aL (0,0))→Upd (fun y=>y=b∨y=ob) h h'→K () h'):HC PG ce [.pointer (some ⟨b,0,none⟩),.pointer (some ⟨ob,0,none⟩),.int .i32 98] [] K h:=by
 refine dx (some ⟨b,0,none⟩) (some ⟨ob,0,none⟩) 98 ?_;unfold dd ag aX nv cI bM ic eu rO my bW wr jf;refine CondP.intro (fun _=>?_) fun e=>absurd e (by decide)
 exact NX r fun m k f=>⟨_,rfl,kP (f.get c a) (by simp) rfl fun i b2 d=>g i (k.updO d a j) b2 (ya f d)⟩
theorem M4(r:RdAt W h b s)(c:h[ob]? =some (.cells (gn o).toArray aL (0,0))) (a:ob≠b) (j:W ob) {K:Unit→ad→Prop}
  (g:∀h',RdAt W h' b (gT s).2→h'[ob]? =some (.cells (gn (ptO o (aG (gT s).1))).toArray aL (0,0))→Upd (fun y=>y=b∨y=ob) h h'→K () h'):HC PG ce [.pointer (some ⟨b,0,none⟩),.pointer (some ⟨ob,0,none⟩),.int .i32 111] [] K h:=by
 refine dx (some ⟨b,0,none⟩) (some ⟨ob,0,none⟩) 111 ?_;unfold dd ag aX nv cI bM ic eu rO my bW wr jf;refine CondP.intro (fun e=>absurd e (by decide)) fun _=>CondP.intro (fun _=>?_) fun e=>absurd e (by decide)
 exact NX r fun m k f=>⟨_,rfl,kP (f.get c a) (by simp) rfl fun i b2 d=>g i (k.updO d a j) b2 (ya f d)⟩
theorem M5(r:RdAt W h b s)(c:h[ob]? =some (.cells (gn o).toArray aL (0,0))) (a:ob≠b) (j:W ob) {K:Unit→ad→Prop}
  (g:∀h',RdAt W h' b (bw s).2→h'[ob]? =some (.cells (gn (aax o (aG (bw s).1))).toArray aL (0,0))→Upd (fun y=>y=b∨y=ob) h h'→K () h'):HC PG ce [.pointer (some ⟨b,0,none⟩),.pointer (some ⟨ob,0,none⟩),.int .i32 107] [] K h:=by
 refine dx (some ⟨b,0,none⟩) (some ⟨ob,0,none⟩) 107 ?_;unfold dd ag aX nv cI bM ic eu rO my bW wr jf;refine CondP.intro (fun e=>absurd e (by decide)) fun _=>CondP.intro (fun e=>absurd e (by decide)) fun _=>CondP.intro (fun _=>?_) fun e=>absurd e (by decide)
 exact uD r fun m k f=>⟨_,rfl,kP (f.get c a) (by simp) rfl fun i b2 d=>g i (k.updO d a j) b2 (ya f d)⟩
theorem M1(r:RdAt W h b s)(c:h[ob]? =some (.cells (gn o).toArray aL (0,0))) (a:ob≠b) (j:W ob) {K:Unit→ad→Prop}
  (g:∀h',RdAt W h' b (bw s).2→h'[ob]? =some (.cells (gn (aaX o (aG (bw s).1))).toArray aL (0,0))→Upd (fun y=>y=b∨y=ob) h h'→K () h'):HC PG ce [.pointer (some ⟨b,0,none⟩),.pointer (some ⟨ob,0,none⟩),.int .i32 118] [] K h:=by
 refine dx (some ⟨b,0,none⟩) (some ⟨ob,0,none⟩) 118 ?_;unfold dd ag aX nv cI bM ic eu rO my bW wr jf;refine CondP.intro (fun e=>absurd e (by decide)) fun _=>CondP.intro (fun e=>absurd e (by decide)) fun _=>CondP.intro (fun e=>absurd e (by decide)) fun _=>CondP.intro (fun _=>?_) fun e=>absurd e (by decide)
 exact uD r fun m k f=>⟨_,rfl,kP (f.get c a) (by simp) rfl fun i b2 d=>g i (k.updO d a j) b2 (ya f d)⟩
theorem M6(l:Laid h)(d:4≤b)(r:RdAt W h b s)(c:h[ob]? =some (.cells (gn o).toArray aL (0,0))) (a:ob≠b) (k:W ob) {K:Unit→ad→Prop}
  (i:∀h',RdAt W h' b (eI 4294967295 s).2→h'[ob]? =some (.cells (gn (aay o (ac .u32 ((eI 4294967295 s).1:Int)))).toArray aL (0,0))→Upd (fun y=>y=b∨y=ob) h h'→K () h'):HC PG ce [.pointer (some ⟨b,0,none⟩),.pointer (some ⟨ob,0,none⟩),.int .i32 105] [] K h:=by
 refine dx (some ⟨b,0,none⟩) (some ⟨ob,0,none⟩) 105 ?_;unfold dd ag aX nv cI bM ic eu rO my bW wr jf;refine CondP.intro (fun e=>absurd e (by decide)) fun _=>CondP.intro (fun e=>absurd e (by decide)) fun _=>CondP.intro (fun e=>absurd e (by decide)) fun _=>CondP.intro (fun e=>absurd e (by decide)) fun _=>CondP.intro (fun _=>?_) fun e=>absurd e (by decide)
 exact Gq (most:=4294967295) l d (by omega) r fun n m g=>⟨_,rfl,kP (g.get c a) (by simp) rfl fun j b2 f=>i j (m.updO f a k) b2 (ya g f)⟩
theorem M2(l:Laid h)(d:4≤b)(r:RdAt W h b s)(c:h[ob]? =some (.cells (gn o).toArray aL (0,0))) (a:ob≠b) (k:W ob) {K:Unit→ad→Prop}
  (i:∀h',RdAt W h' b (eI 4294967295 s).2→h'[ob]? =some (.cells (gn (ptT o (ac .u32 ((eI 4294967295 s).1:Int)))).toArray aL (0,0))→Upd (fun y=>y=b∨y=ob) h h'→K () h'):HC PG ce [.pointer (some ⟨b,0,none⟩),.pointer (some ⟨ob,0,none⟩),.int .i32 116] [] K h:=by
 refine dx (some ⟨b,0,none⟩) (some ⟨ob,0,none⟩) 116 ?_;unfold dd ag aX nv cI bM ic eu rO my bW wr jf;refine CondP.intro (fun e=>absurd e (by decide)) fun _=>CondP.intro (fun e=>absurd e (by decide)) fun _=>CondP.intro (fun e=>absurd e (by decide)) fun _=>CondP.intro (fun e=>absurd e (by decide)) fun _=>CondP.intro (fun e=>absurd e (by decide)) fun _=>CondP.intro (fun _=>?_) fun e=>absurd e (by decide)
 exact Gq (most:=4294967295) l d (by omega) r fun n m g=>⟨_,rfl,kP (g.get c a) (by simp) rfl fun j b2 f=>i j (m.updO f a k) b2 (ya g f)⟩
theorem M3(l:Laid h)(d:4≤b)(r:RdAt W h b s)(c:h[ob]? =some (.cells (gn o).toArray aL (0,0))) (a:ob≠b) (k:W ob) {K:Unit→ad→Prop}
  (i:∀h',RdAt W h' b (eI 2147483647 s).2→h'[ob]? =some (.cells (gn (ptS o (ac .i64 ((eI 2147483647 s).1:Int)))).toArray aL (0,0))→Upd (fun y=>y=b∨y=ob) h h'→K () h'):HC PG ce [.pointer (some ⟨b,0,none⟩),.pointer (some ⟨ob,0,none⟩),.int .i32 115] [] K h:=by
 refine dx (some ⟨b,0,none⟩) (some ⟨ob,0,none⟩) 115 ?_;unfold dd ag aX nv cI bM ic eu rO my bW wr jf;refine CondP.intro (fun e=>absurd e (by decide)) fun _=>CondP.intro (fun e=>absurd e (by decide)) fun _=>CondP.intro (fun e=>absurd e (by decide)) fun _=>CondP.intro (fun e=>absurd e (by decide)) fun _=>CondP.intro (fun e=>absurd e (by decide)) fun _=>CondP.intro (fun e=>absurd e (by decide)) fun _=>CondP.intro (fun _=>?_) fun e=>absurd e (by decide)
 exact Gq (most:=2147483647) l d (by omega) r fun n m g=>⟨_,rfl,kP (g.get c a) (by simp) rfl fun j b2 f=>i j (m.updO f a k) b2 (ya g f)⟩
theorem M0(l:Laid h)(d:4≤b)(r:RdAt W h b s)(c:h[ob]? =some (.cells (gn o).toArray aL (0,0))) (a:ob≠b) (k:W ob) {K:Unit→ad→Prop}
  (i:∀h',RdAt W h' b (eI 2147483647 s).2→h'[ob]? =some (.cells (gn (ptW o (ac .i64 ((eI 2147483647 s).1:Int)))).toArray aL (0,0))→Upd (fun y=>y=b∨y=ob) h h'→K () h'):HC PG ce [.pointer (some ⟨b,0,none⟩),.pointer (some ⟨ob,0,none⟩),.int .i32 119] [] K h:=by
 refine dx (some ⟨b,0,none⟩) (some ⟨ob,0,none⟩) 119 ?_;unfold dd ag aX nv cI bM ic eu rO my bW wr jf;refine CondP.intro (fun e=>absurd e (by decide)) fun _=>CondP.intro (fun e=>absurd e (by decide)) fun _=>CondP.intro (fun e=>absurd e (by decide)) fun _=>CondP.intro (fun e=>absurd e (by decide)) fun _=>CondP.intro (fun e=>absurd e (by decide)) fun _=>CondP.intro (fun e=>absurd e (by decide)) fun _=>CondP.intro (fun e=>absurd e (by decide)) fun _=>CondP.intro (fun _=>?_) fun e=>absurd e (by decide)
 exact Gq (most:=2147483647) l d (by omega) r fun n m g=>⟨_,rfl,kP (g.get c a) (by simp) rfl fun j b2 f=>i j (m.updO f a k) b2 (ya g f)⟩
end
end Go.Proofs
namespace Go.Proofs
open Go Go.Lift
def RL(p:UInt8)(x:rB×xm):rB×xm:=
 if p=98 then((gT x.1).2,aaz x.2 (aG (gT x.1).1))
 else if p=111 then((gT x.1).2,ptO x.2 (aG (gT x.1).1))
 else if p=107 then((bw x.1).2,aax x.2 (aG (bw x.1).1))
 else if p=118 then((bw x.1).2,aaX x.2 (aG (bw x.1).1))
 else if p=105 then((eI 4294967295 x.1).2,aay x.2 (ac .u32 ((eI 4294967295 x.1).1:Int)))
 else if p=116 then((eI 4294967295 x.1).2,ptT x.2 (ac .u32 ((eI 4294967295 x.1).1:Int)))
 else if p=115 then((eI 2147483647 x.1).2,ptS x.2 (ac .i64 ((eI 2147483647 x.1).1:Int)))
 else if p=119 then((eI 2147483647 x.1).2,ptW x.2 (ac .i64 ((eI 2147483647 x.1).1:Int)))
 else x
def Hg(p:UInt8):Prop:=p=98∨p=111∨p=107∨p=118∨p=105∨p=116∨p=115∨p=119
section
variable {W M:Nat→Prop} {h h':ad} {b ob i:Nat} {s:rB} {o:xm}
theorem UR{p:UInt8}(g:Hg p)(l:Laid h)(d:4≤b)(r:RdAt W h b s)(a:h[ob]? =some (.cells (gn o).toArray aL (0,0))) (c:ob≠b) (f:W ob) {K:Unit→ad→Prop}
  (e:∀h',RdAt W h' b (RL p (s,o)).1→h'[ob]? =some (.cells (gn (RL p (s,o)).2).toArray aL (0,0))→Upd (fun y=>y=b∨y=ob) h h'→K () h'):HC PG ce [.pointer (some ⟨b,0,none⟩),.pointer (some ⟨ob,0,none⟩),.int .i32 (p.toNat:Int)] [] K h:=by
 rcases g with rfl|rfl|rfl|rfl|rfl|rfl|rfl|rfl
 ·exact M7 r a c f e
 ·exact M4 r a c f e
 ·exact M5 r a c f e
 ·exact M1 r a c f e
 ·exact M6 l d r a c f e
 ·exact M2 l d r a c f e
 ·exact M3 l d r a c f e
 ·exact M0 l d r a c f e
theorem Te{p:UInt8}(a:Hg p):p.toNat<128:=by
 rcases a with rfl|rfl|rfl|rfl|rfl|rfl|rfl|rfl<;>decide
theorem Tg{a:List UInt8}(U:∀p∈a,Hg p)(l:Laid h)(D:4≤b)(T:4≤ob)(S:4≤i)(r:RdAt W h b s)(H:h[ob]? =some (.cells (gn o).toArray aL (0,0))) (C:ob≠b) (V:W ob) (w:i≠b) (v:i≠ob) (E:W i)
  (B:h[i]? =some (.stringIter (aG a) 0)) {Kend:ad→Prop}
  (m:∀h',RdAt W h' b (a.foldl (fun x p=>RL p x) (s,o)).1→h'[ob]? =some (.cells (gn (a.foldl (fun x p=>RL p x) (s,o)).2).toArray aL (0,0))→Upd (fun y=>y=b∨y=ob∨y=i) h h'→Kend h'):
  LoopP (fun(I:Unit→ad→Prop) (_:Unit) z=>NextS ⟨i,0,none⟩ z (Kend z) (fun _ K A=>HC PG ce [.pointer (some ⟨b,0,none⟩),.pointer (some ⟨ob,0,none⟩),.int .i32 (K.toNat:Int)] [] (fun(_:Unit) J=>I () J) A)) () h:=by
 refine LoopP.ghost (fun(n:Nat) (_:Unit) f=>n≤a.length∧RdAt W f b ((a.take n).foldl (fun x p=>RL p x) (s,o)).1∧f[ob]? =some (.cells (gn ((a.take n).foldl (fun x p=>RL p x) (s,o)).2).toArray aL (0,0))∧f[i]? =some (.stringIter (aG a) n)∧Upd (fun y=>y=b∨y=ob∨y=i) h f) (fun n=>a.length-n) 0 ⟨aV _,r,H,B,Upd.refl _ _⟩ ?_
 rintro I n _ f ⟨N,F,c,j,G⟩ P;refine⟨rfl,aG a,n,j,?_⟩;by_cases u:n<a.length
 ·obtain⟨p,k⟩:∃p,a[n]? =some p:=⟨_,ah u⟩
  have t:=U p (List.mem_of_getElem? k);refine .inr ⟨p,by rw[Oh];simpa using k,Te t,?_⟩
  have q:=Upd.set (M:=(· =i)) f (b:=i) (.stringIter (aG a) (n+1)) rfl
  have g:(f.setIfInBounds i (.stringIter (aG a) (n+1)))[i]? =some (.stringIter (aG a) (n+1)):=by
   have:=bB j;simp[this]
  show HC PG ce _ _ _ (f.setIfInBounds i (.stringIter (aG a) (n+1)))
  generalize f.setIfInBounds i (.stringIter (aG a) (n+1))=h3 at q g;have e:a.take (n+1)=a.take n++ [p]:=by rw[List.take_add_one,k];rfl
  have O:Laid h3:=l.upd (G.tr (q.mono fun y d=>.inl (.inr (.inr d)))) fun y d=>by rcases d with rfl|rfl|rfl<;>assumption
  refine UR t O D (F.upd q (fun e=>w (by have e:b=i:=e;exact e.symm)) fun y d=>.inl (by have d:y=i:=d;rw[d];exact E)) (q.get c fun e=>v (by have e:ob=i:=e;exact e.symm)) C V fun X Q R L=>?_
  refine P (n+1) () X ⟨u,?_,?_,L.get g (by rintro(e|e);exact w e;exact v e),(G.tr (q.mono fun y d=>.inl (.inr (.inr d)))).tr (L.mono fun y d=>.inl (d.imp id .inl))⟩ (by omega)
  ·rw[e,mn];exact Q
  ·rw[e,mn];exact R
 ·have N:n=a.length:=by omega
  rw[N,List.take_length]at F c;exact .inl ⟨by rw[cu];omega,m f F c G⟩
end
end Go.Proofs
namespace Go.Proofs
open Go Go.Lift
theorem V6{sp k:Nat}{f:FuncId}{o:xm}(ek:o.1=(k:Int))(m:k<26)(u:Qr[k]? =some (Ey f)) {h:ad} {K:An→ad→Prop}
  (hc:∀a b,Upd No h a→h.size≤b→b<a.size→HC PG f [.pointer (some ⟨sp,0,none⟩),LG o] Q5 (fun e h'=>∃M:Nat→Prop,Upd M a h'∧¬M b∧∀g,Upd (· =b) h' g→K e g) a):
  HC PG gX [.pointer (some ⟨sp,0,none⟩),LG o] Q5 K h:=by
 refine EK (some ⟨sp,0,none⟩) o ?_;unfold wS ao bC ag aX aI eX BI MM FZ VH ML;refine cH fun p b1 k1=>cH fun a b2 j=>af.2 ?_
 have c1:=j.get0 b1;refine⟨_,vc c1 0,?_⟩;rw[ek];refine VG m u fun g d=>⟨rfl,af.2 (tA (o:=o) (d.get0 c1) (HV.mk' ?_))⟩
 have i:=(k1.tr j).tr d;have q:=k1.size;have z:=bB b2;have y:=d.size;refine(hc g p.size i q (by omega)).mono fun e x ⟨M,w,t,s⟩=>?_
 exact CC (c:=W2) (e:=e) (w.get (d.get0 b2) t) fun v n=>s v n
section
variable {W:Nat→Prop} {h:ad} {sp vp:Nat} {s:VS} {sm:Option Nat} {last:Int} {pool:Option Addr} {o:xm}
abbrev PN(b:Nat)(sm:Option Nat)(last:Int)(a:Option Addr):List Value:= [.pointer (some ⟨b,0,none⟩),.map sm,.int .i64 last,.pointer a]
theorem BaseOf.is(v:VaultAt W h vp s){id:Int}{B:TD}(a:BaseOf s id B):TreeIs W h s.kind s.x B.1 B.2:=by
 rcases a with⟨_,rfl⟩|⟨_,a⟩
 ·exact v.em
 ·exact(v.ts _ (OK a)).1
theorem Nd(v:VaultAt W h vp s)(b:h[sp]? =some (.cells (PN vp sm last pool).toArray dB (0,0))) {K:An→ad→Prop} (p:∀h',Upd s.M h h'→VaultAt W h' vp {s with B:=if AH s.B s.L o.2.1 o.2.2.2.2.2.1 false=0 then pP s.B o.2.1 o.2.2.2.2.2.1 else s.B}→K (AH s.B s.L o.2.1 o.2.2.2.2.2.1 false,0,0,⟨#[]⟩,false,0,eH,eH,eH,eH,eH) h'):
  HC PG jW [.pointer (some ⟨sp,0,none⟩),LG o] Q5 K h:=by
 refine zV (some ⟨sp,0,none⟩) o ?_;unfold rI ao bC ag aX aI eX BI FZ iQ ML YF;refine cH fun t b1 k1=>cH fun q b2 m=>?_
 have a:=k1.tr m;have c1:=m.get0 b1;have n:=v.w;have k:=v.g.lt;have hM:∀y,s.M y→y<h.size:=fun y f=>k y (n y f)
 have x:=k1.size;have A:=bB b2;refine⟨_,rfl,_,vc (a.get0 b) 0,_,vc c1 1,_,vc c1 5,PD (v.pro a) o.2.1 o.2.2.2.2.2.1 fun C w u=>TI fun z d=>?_⟩
 have i:Upd s.M q C:=w.mono fun y f=>.inl (.inr (.inr (.inr (.inl f))))
 refine CC (c:=W2) (e:=(AH s.B s.L o.2.1 o.2.2.2.2.2.1 false,0,0,⟨#[]⟩,false,0,eH,eH,eH,eH,eH)) (d.get0 (i.get b2 fun e=>by have:=hM _ e;omega)) fun j g=>p j ?_ ?_
 ·exact((a.wide.tr i).tr d.wide).trans g fun y f=>.inr (by have f:y=t.size:=f;omega)
 ·exact((u.upd0 d).own hM g x A).dn n
theorem Xw(v:VaultAt W h vp s){k:Nat}(e:h[k]? =some (.cells (gn o).toArray aL (0,0))) {B:TD} (i:TreeIs W h s.kind s.x B.1 B.2) {N:Nat} (D:N≤900) (q:Few N B.2) (A:o.2.2.2.1.size≤30) (z:o.2.2.2.2.1.size≤30) {K:Tr×Int→ad→Prop} (x:∀h' f,TreeIs W h' s.kind s.x f (km (o.2.2.2.1,o.2.2.2.2.1) B.2)→Upd No h h'→K (f,0) h'):
  HC PG iR [SM B.1,.pointer (some ⟨k,0,none⟩)] [.agg [.int .i64,.int .u64,.int .u64,.int .u64,.ptr,.ptr],.c (.int .i64)] K h:=by
 refine AJ B.1 ⟨k,0,none⟩ ?_;unfold sG ao eX bL ae aq qo m6 yF mW;refine cH fun t b1 k1=>cH fun C b2 j=>?_
 have c1:=j.get0 b1;have p:=j.get0 (k1.get0 e);have d:=k1.tr j;have u:=k1.size;have E:=bB b2;refine⟨_,vc c1 0,_,vc c1 1,_,vc c1 2,_,vc c1 3,_,vc c1 4,_,vc c1 5,_,vc p 3,_,vc p 4,?_⟩;refine M9 (i.pro d) (Pro.lt v.g.lt d) q.up (by have:=q.len;omega) (o.2.2.2.1,o.2.2.2.2.1) (by simp only;omega) (by simp only;omega) fun w f n _ b=>cS (c:=qf D4) (vs:=qf f) (b.get0 b2) rfl fun m a g=>?_
 refine⟨_,vc a 0,_,vc a 1,_,vc a 2,_,vc a 3,_,vc a 4,_,vc a 5,x m f ?_ ((d.tr b).own g u)⟩;exact(n.updM g fun y e=>.inl (.inr (by have e:y=t.size:=e;omega))).less fun y e=>.inl (.inl e)
theorem UH{n:ByteArray}{d:TD}{ps:List Int}{id:Int}(h:(mr s.L s.nx ps).1=(id,0)):(Bq s n d ps).1=(id,0):=by
 unfold Bq;rw[h,if_neg (by simp)]
theorem Eb{n:ByteArray}{d:TD}{ps:List Int}:∀y,(Bq s n d ps).2.M y↔s.M y:=fun y=>by unfold Bq;split<;>rfl
theorem QI(v:VaultAt W h vp s)(b:h[sp]? =some (.cells (PN vp sm last pool).toArray dB (0,0))) {D:Nat} (cy:h[D]? =some (.cells (gn o).toArray aL (0,0))) (_:¬s.M sp) {hd:Int} (S:dM s.B o.2.1=some hd) (hh:hd=0∨hd∈ids s.L) {N:Nat} (hN:N≤900) (hF:∀B,BaseOf s hd B→Few N B.2) (U:o.2.2.2.1.size≤30) (O:o.2.2.2.2.1.size≤30) {id:Int} (G:(mr s.L s.nx (nz [hd])).1=(id,0)) {K:An→ad→Prop}
  (hk:∀h' B n,BaseOf s hd B→Upd s.M h h'→VaultAt W h' vp (Bq s o.2.1 (n,km (o.2.2.2.1,o.2.2.2.2.1) B.2) (nz [hd])).2→K (0,id,0,⟨#[]⟩,false,0,eH,eH,eH,eH,eH) h'):
  HC PG oO [.pointer (some ⟨sp,0,none⟩),LG o,.func (.func iR) #[] #[.pointer (some ⟨D,0,none⟩)]] Q5 K h:=by
 have R:=v.w;have I:=v.g.lt;have hM:∀y,s.M y→y<h.size:=fun y a=>I y (R y a)
 refine B0 (some ⟨sp,0,none⟩) o (.func (.func iR) #[] #[.pointer (some ⟨D,0,none⟩)]) ?_;unfold ua ao bC ag aX aI eX nv BI FZ nZ iQ ML ae aq qo m6 VI Ea yF ZP;refine cH fun V b3 Q=>cH fun h4 T P=>?_
 have f:=Q.tr P;have s3:=Q.size;have z4:=bB T;have z3:=bB b3;have L:=P.get0 b3;refine⟨_,rfl,_,vc (f.get0 b) 0,_,vc L 1,MY (v.upd0 f) o.2.1 ?_⟩;rw[S];refine af.2 ⟨_,rfl,_,vc (f.get0 b) 0,JM (v.upd0 f) hh fun B H J Y=>?_⟩
 refine cH fun h6 b6 k6=>cS (c:=qf D4) (vs:=qf B.1) b6 rfl fun A i u7=>?_
 have s5:=Y.size;have g:Upd No h4 A:=(Y.tr k6).own u7 s5;have k:=f.tr g;have s7:=g.size;have z7:=bB i;have Z:=hF B H;have E:=v.pro k;have X:Few (N+1) (km (o.2.2.2.1,o.2.2.2.2.1) B.2):=Z.ins _ U O;refine⟨_,vc i 0,_,vc i 1,_,vc i 2,_,vc i 3,_,vc i 4,_,vc i 5,HV.mk' ?_⟩;refine Xw (o:=o) E (k.get0 cy) (H.is E) hN Z U O fun h8 n i8 q=>?_
 refine cS (c:=qf B.1) (vs:=qf n) (q.get0 i) rfl fun z p x=>af.2 ?_
 have m:h.size≤J.size∧J.size<A.size:=by omega
 have t:Upd No h z:=(k.tr q).own x m.1;have v9:VaultAt (Pro W h A) z vp s:=(E.upd0 q).own hM x m.1 m.2;have i9:TreeIs (Pro W h A) z s.kind s.x n (km (o.2.2.2.1,o.2.2.2.2.1) B.2):=i8.updM x fun y a=>.inl (.inr (by have a:y=J.size:=a;omega))
 have c9:z[h.size]? =some (.cells (gn o).toArray aL (0,0)):=x.oth (q.get0 (g.get0 L)) (by omega);refine⟨_,rfl,_,vc (t.get0 b) 0,_,vc c9 1,_,vc p 0,_,vc p 1,_,vc p 2,_,vc p 3,_,vc p 4,_,vc p 5,?_⟩;refine PE v9 o.2.1 S (d:=(n,km (o.2.2.2.1,o.2.2.2.2.1) B.2)) i9 X.up X.fits fun h10 w C=>?_
 rw[UH G];refine VB fun h11 j=>?_
 have nM:∀y,h.size≤y→¬s.M y:=fun y a e=>by have:=hM y e;omega
 have d9:z[V.size]? =some (.cells (Zo W2).toArray dU (0,0)):=x.oth (q.get0 (g.get0 T)) (by omega);refine CC (c:=W2) (e:=(0,id,0,⟨#[]⟩,false,0,eH,eH,eH,eH,eH)) (j.get0 (w.get d9 (nM _ (by omega)))) fun F u=>hk F B n H ?_ ?_
 ·exact((t.wide.tr w).tr j.wide).trans u fun y a=>.inr (by have a:y=V.size:=a;omega)
 ·exact((C.upd0 j).own (fun y a=>hM y ((Eb y).1 a)) u (by omega) (by omega)).dn fun y a=>R y ((Eb y).1 a)
theorem U0(v:VaultAt W h vp s)(b:h[sp]? =some (.cells (PN vp sm last pool).toArray dB (0,0))) (f:¬s.M sp) {hd:Int} (A:dM s.B o.2.1=some hd) (w:hd=0∨hd∈ids s.L) {N:Nat} (D:N≤900) (q:∀B,BaseOf s hd B→Few N B.2) (C:o.2.2.2.1.size≤30) (u:o.2.2.2.2.1.size≤30) {id:Int} (i:(mr s.L s.nx (nz [hd])).1=(id,0)) {K:An→ad→Prop}
  (F:∀h' B g,BaseOf s hd B→Upd s.M h h'→VaultAt W h' vp (Bq s o.2.1 (g,km (o.2.2.2.1,o.2.2.2.2.1) B.2) (nz [hd])).2→K (0,id,0,⟨#[]⟩,false,0,eH,eH,eH,eH,eH) h'):
  HC PG l7 [.pointer (some ⟨sp,0,none⟩),LG o] Q5 K h:=by
 have n:=v.w;have j:=v.g.lt;have hM:∀y,s.M y→y<h.size:=fun y a=>j y (n y a)
 refine Di (some ⟨sp,0,none⟩) o ?_;unfold uZ ao bC ag aX aI eX BI MM FZ ML;refine cH fun t b1 k1=>cH fun I b2 m=>?_
 have d:=k1.tr m;have c1:=m.get0 b1;have x:=k1.size;have H:=bB b2;refine tA (o:=o) c1 (QI (v.pro d) (d.get0 b) c1 f A w D q C u i fun J B g E k z=>?_)
 refine CC (c:=W2) (e:=(0,id,0,⟨#[]⟩,false,0,eH,eH,eH,eH,eH)) (k.get b2 fun e=>by have:=hM _ e;omega) fun G p=>F G B g E ((d.wide.tr k).trans p fun y a=>.inr (by have a:y=t.size:=a;omega)) ?_
 exact(z.own (fun y a=>hM y ((Eb y).1 a)) p x H).dn fun y a=>n y ((Eb y).1 a)
end
end Go.Proofs
namespace Go.Proofs
open Go Go.Lift Go.Conc Go.RowKit
theorem X5{w:World}{b i:Nat}{c:Array Value}{t:TypeId}{v:Value}(h:w.heap[b]? =some (.cells c t (0,0))) (a:c[i]? =some v):w.cell? ⟨b,i,none⟩=some v:=by
 simp only[World.cell?,h];exact a
theorem mkc(w:World)(n:Nat)(h:n≤4096):(Instr.makeChan 267 (.int .i64 n)).run Tryz.prog w=.ok (.chan (some w.heap.size)) (w.alloc (.chan n #[] false 0 0 false)):=by
 have b:Tryz.prog.underlying 267=some (.chan .both 3):=by kernel_rfl
 have a:(Tryz.prog.info? 3).map (·.bytes)=some 8:=by kernel_rfl
 obtain⟨i,hi,c⟩:=eA.1 a;exact run_makeChan (P:=Tryz.prog) (w:=w) b hi .i64 n (by omega) (by rw[c];omega)
noncomputable abbrev Gr:Code:=match Tryz.f141.body with|some (.seq _ (.seq _ (.seq _ (.seq (.seq _ (.block _ (.loop c))) _))))=>c|_=>.skip
noncomputable abbrev LJ:Code:=match Tryz.f141.body with|some (.seq _ (.seq _ (.seq _ (.seq _ c))))=>c|_=>.skip
set_option maxRecDepth 100000 in
set_option maxHeartbeats 4000000 in
theorem VA{n pb t:Nat}{Q:Goroutine→World→Prop}{cs:List Frame}(L:n≤4096)(D:pb≠t):∀(m i:Nat) (v b g o q d f e k p:Value) (ids:List Value) (s r:Nat) (w:World),i+m=n→ids.length=i→w.heap[pb]? =some (.cells #[.chan (some t)] 269 (0,0))→w.heap[t]? =some (.chan n ids.toArray false s r false)→
  (∀(v b g o q d f e k p:Value) (a:List Value) (s' y:Nat) (w':World),a=ids++(eN m).map (fun j=>Value.int .i64 ((i+j:Nat)+1:Int))→(w'=w∨w'=w.setChan t n a.toArray false s' y false)→w'.heap[t]? =some (.chan n a.toArray false s' y false)→LoneTo Tryz.prog Q (G ((base 141).at ⟨#[.int .i64 n,undef,.pointer none,.int .i64 0,.pointer (some ⟨pb,0,none⟩),v,.int .i64 n,.bool false,.bool false,.int .i64 n,.bool false,.bool false,.int .i64 n,.chan (some t),.agg #[.chan (some t)],.pointer (some ⟨pb,0,none⟩),.int .i64 n,.int .i64 n,b,g,o,q,d,f,e,k,p,undef],[]⟩ [.code LJ]) cs) w')→
  LoneTo Tryz.prog Q (G ((base 141).at ⟨#[.int .i64 n,undef,.pointer none,.int .i64 0,.pointer (some ⟨pb,0,none⟩),v,.int .i64 n,.bool false,.bool false,.int .i64 n,.bool false,.bool false,.int .i64 n,.chan (some t),.agg #[.chan (some t)],.pointer (some ⟨pb,0,none⟩),.int .i64 n,.int .i64 i,b,g,o,q,d,f,e,k,p,undef],[]⟩ [.code Gr,.inLoop Gr,.inBlock 0,.code LJ]) cs) w:=by
 intro m;induction m with
 |zero=>
  intro i v b g o q d f e k p ids s r w u z B hc C;have u:i=n:=by omega
  subst u;have A:¬((i:Int)<(i:Int)):=by omega
  refine LoneTo.goes (n:=9) ?_;simp only[Gr,Tryz.f141];s_c stepG_seq
  s_reg
  s_op
  s_c stepG_region_end
  s_c stepG_seq
  s_cond false
  s_exit
  s_stop
  exact C _ _ _ _ _ _ _ _ _ _ ids s r w (by simp) (.inl rfl) hc
 |succ m ih=>
  intro i v b g o q d f e k p ids s r w u z B hc C;have A:((i:Int)<(n:Int)):=by omega
  have aD:=X5 B (i:=0) rfl;have F:ac .i64 ((i:Int)+1)=((i+1:Nat):Int):=by rw[kO (by omega)];omega
  refine LoneTo.goes (n:=21) ?_;simp only[Gr,Tryz.f141];s_c stepG_seq
  s_reg
  s_op
  s_c stepG_region_end
  s_c stepG_seq
  s_cond true
  s_c stepG_skip
  s_c stepG_seq
  s_c stepG_block
  s_c stepG_seq
  s_reg
  s_op
  s_op
  s_c stepG_region_end
  s_reg
  s_op
  s_op
  s_op
  s_op
  s_op
  s_op
  s_stop
  refine LoneTo.step (step_lone_send_room (c:=t) (cap:=n) (buf:=ids.toArray) (s:=s) (r:=r) (tm:=false) (stepG_comm (cases:= #[scase t (.int .i64 ((i:Int)+1)) (.tuple #[])]) (blocking:=true) (shape:=.send) (w':=w) rfl rfl (by decide) (by simp[execOp,scase,Act.eval])) hc (by simp[z];omega)) ?_;rw[Frame.finish_at];walk_nrm
  have E:t<w.heap.size:=(Array.getElem?_eq_some_iff.1 hc).1;refine LoneTo.goes (n:=7) ?_;s_c stepG_region_end
  s_c stepG_inBlock
  s_reg
  s_op
  s_op
  s_c stepG_region_end
  s_c stepG_inLoop
  s_stop
  have I:((i:Int)+1)=((i+1:Nat):Int):=by omega
  rw[I];refine ih (i+1) _ _ _ _ _ _ _ _ _ _ (ids++ [Value.int .i64 ((i+1:Nat):Int)]) (s+1) r (w.setChan t n (ids++ [Value.int .i64 ((i+1:Nat):Int)]).toArray false (s+1) r false) (by omega) (by simp[z]) ?_ (heap_setChan _ _ _ _ _ _ _ _ E) fun v b g o q d f e k p a s' y w' e1 e2 x=>C v b g o q d f e k p a s' y w' ?_ (.inr ?_) x
  ·simp only[World.setChan,Array.getElem?_setIfInBounds]
   rw[if_neg (Ne.symm D)];exact B
  ·rw[e1,List.range_succ_eq_map]
   simp[Nat.add_comm,Nat.add_left_comm,Function.comp_def]
  ·rcases e2 with e2|e2
   ·subst e2
    rw[heap_setChan _ _ _ _ _ _ _ _ E]at x;simp only[bq.injEq,Obj.chan.injEq]at x;obtain⟨_,K,_,J,H,_⟩:=x;rw[K,J,H]
   ·rw[e2];simp[World.setChan]
set_option maxRecDepth 100000 in
set_option maxHeartbeats 4000000 in
theorem Vz{n:Nat}{w:World}(x:1≤n)(a:n≤4096):Calls Tryz.prog 141 #[.int .i64 n] w fun e w'=>e=.returned (.tuple #[.pointer (some ⟨w.heap.size+1,0,none⟩),.int .i64 0])∧∃(ids:List Value) (s r:Nat),ids=(eN n).map (fun j=>Value.int .i64 ((0+j:Nat)+1:Int))∧w'.heap[w.heap.size]? =some (.chan n ids.toArray false s r false)∧(w'=(w.alloc (.chan n #[] false 0 0 false)).alloc (.cells #[.chan (some w.heap.size)] 269 (0,0))∨w'=((w.alloc (.chan n #[] false 0 0 false)).alloc (.cells #[.chan (some w.heap.size)] 269 (0,0))).setChan w.heap.size n ids.toArray false s r false):=by
 refine calls_of_loneTo fun cs=>?_
 have e:Frame.enter Tryz.prog 141 #[.int .i64 n] .normal=(base 141).at ⟨#[.int .i64 n,undef,undef,undef,undef,undef,undef,undef,undef,undef,undef,undef,undef,undef,undef,undef,undef,undef,undef,undef,undef,undef,undef,undef,undef,undef,undef,undef],[]⟩ [.code (Tryz.f141.body.getD .skip)]:=by
  simp[Frame.enter,Frame.at,Tryz.func141,base,Tryz.f141]
 rw[e];have u:=fun w=>mkc w n a
 have c1:¬((n:Int)<1):=by omega
 have y:¬(4096<(n:Int)):=by omega
 refine LoneTo.goes (n:=33) ?_;simp only[Tryz.f141,Option.getD_some];s_c stepG_seq
 s_reg
 s_op
 s_op
 s_c stepG_region_end
 s_c stepG_seq
 s_c stepG_seq
 s_reg
 s_op
 s_op
 s_op
 s_op
 s_op
 s_op
 s_c stepG_region_end
 s_cond false
 s_c stepG_skip
 s_c stepG_seq
 s_reg
 s_op
 s_op
 s_op
 s_op
 s_op
 s_c stepG_region_end
 s_c stepG_seq
 s_c stepG_seq
 s_reg
 s_op
 s_op
 s_c stepG_region_end
 s_c stepG_block
 s_c stepG_loop
 s_stop
 have i:((w.alloc (.chan n #[] false 0 0 false)).alloc (.cells #[.chan (some w.heap.size)] 269 (0,0))).heap[w.heap.size+1]? =some (.cells #[.chan (some w.heap.size)] 269 (0,0)):=by
  have:=heap_alloc_new (w.alloc (.chan n #[] false 0 0 false)) (.cells #[.chan (some w.heap.size)] 269 (0,0));simpa using this
 have p:((w.alloc (.chan n #[] false 0 0 false)).alloc (.cells #[.chan (some w.heap.size)] 269 (0,0))).heap[w.heap.size]? =some (.chan n #[] false 0 0 false):=by
  show((w.heap.push (.chan n #[] false 0 0 false)).push (.cells #[.chan (some w.heap.size)] 269 (0,0)))[w.heap.size]? =_
  simp[Array.getElem?_push]
 refine VA a (by omega) n 0 _ _ _ _ _ _ _ _ _ _ [] 0 0 _ (by omega) rfl i p fun v g t f m o q b c k ids s r w' e1 e2 d=>?_
 refine LoneTo.goes (n:=7) ?_;simp only[LJ,Tryz.f141];s_c stepG_seq
 s_reg
 s_op
 s_op
 s_op
 s_c stepG_region_end
 s_c stepG_ret'
 s_stop
 refine LoneTo.done ⟨.returned (.tuple #[.pointer (some ⟨w.heap.size+1,0,none⟩),.int .i64 0]),_,rfl,⟨rfl,ids,s,r,by simpa[eN]using e1,d,e2⟩,rfl,rfl,rfl,rfl,_,Tryz.func141,by simp[results,Tryz.f141,Frame.at]⟩
section
variable {pb tb cb:Nat} {id:Int} {u2 u3 u4 u5 u6 u7 u8 u9 u10 u11 u12 u13 u14 u15 u16 u17 u18 u19 u20 u21 u22:Value} {Q:Goroutine→World→Prop} {cs:List Frame} {kk:List Item} {w:World}
set_option maxRecDepth 100000
end
end Go.Proofs
namespace Go.Proofs
open Go Go.Lift Go.Conc
def PoolAt(h:ad)(pb a cap:Nat)(ids:List Int):Prop:=pb≠a∧h[pb]? =some (.cells #[.chan (some a)] 269 (0,0))∧∃s r,h[a]? =some (.chan cap (ids.map fun i=>Value.int .i64 i).toArray false s r false)
theorem PoolAt.upd{M:Nat→Prop}{h h':ad}{pb c cap:Nat}{ids:List Int}(p:PoolAt h pb c cap ids)(k:Upd M h h')(d:¬M pb)(e:¬M c):PoolAt h' pb c cap ids:=let⟨n,a,s,r,b⟩:=p;⟨n,k.get a d,s,r,k.get b e⟩
theorem PoolAt.upd0{h h':ad}{pb a cap:Nat}{ids:List Int}(p:PoolAt h pb a cap ids)(k:Upd No h h'):PoolAt h' pb a cap ids:=p.upd k id id
theorem Qm{n:Nat}(k:1≤n)(o:n≤4096){h:ad}{K:Option Addr×Int→ad→Prop}(b:∀h',Upd No h h'→PoolAt h' (h.size+1) h.size n ((eN n).map fun j=>((j:Nat):Int)+1)→K (some ⟨h.size+1,0,none⟩,0) h'):HC PG Fl [.int .i64 n] [.c .ptr,.c (.int .i64)] K h:=by
 refine⟨fun w m=>.inl ⟨Tryz.call141 _ w,(Vz k o (w:=w)).mono ?_⟩⟩
 subst m;rintro e w' ⟨rfl,ids,s,r,e1,e2,g⟩;have k1:Upd No w.heap ((w.heap.push (.chan n #[] false 0 0 false)).push (.cells #[.chan (some w.heap.size)] 269 (0,0))):=(Upd.push No w.heap _).tr (Upd.push No _ _);have a:ids=(((eN n).map fun j=>((j:Nat):Int)+1).map fun i=>Value.int .i64 i):=by rw[e1];simp[Function.comp_def]
 have c:((w.heap.push (.chan n #[] false 0 0 false)).push (.cells #[.chan (some w.heap.size)] 269 (0,0)))[w.heap.size+1]? =some (.cells #[.chan (some w.heap.size)] 269 (0,0)):=by
  rw[Array.getElem?_push,Array.size_push,if_pos rfl]
 rcases g with rfl|rfl
 ·refine⟨⟨rfl,rfl,rfl⟩,((some ⟨w.heap.size+1,0,none⟩,0):Option Addr×Int),rfl,b _ k1 ⟨by omega,c,s,r,?_⟩⟩
  rw[←a];exact e2
 ·have f:=Upd.set (M:=(· =w.heap.size)) ((w.heap.push (.chan n #[] false 0 0 false)).push (.cells #[.chan (some w.heap.size)] 269 (0,0))) (.chan n ids.toArray false s r false) rfl
  refine⟨⟨rfl,rfl,rfl⟩,((some ⟨w.heap.size+1,0,none⟩,0):Option Addr×Int),rfl,b _ (k1.trans f fun y d=>.inr (by have d:y=w.heap.size:=d;omega)) ⟨by omega,f.get c (fun e=>by have e:w.heap.size+1=w.heap.size:=e;omega),s,r,?_⟩⟩
  rw[←a];exact e2
end Go.Proofs
namespace Go.Proofs
open Go Go.Lift
section
variable {W:Nat→Prop} {h:ad} {sp vp:Nat} {s:VS} {sm:Option Nat} {last:Int} {pool:Option Addr} {o:xm}
theorem Xl(v:VaultAt W h vp s)(b:h[sp]? =some (.cells (PN vp sm last pool).toArray dB (0,0))) {f:FuncId} {cap:Array Value} {id:Int} (hi:id=0∨id∈ids s.L) {K:An→ad→Prop}
  (hc:∀B g,BaseOf s id B→Upd No h g→HC PG f ([SM B.1]++cap.toList) Q5 (fun e h'=>Upd No g h'∧∀j b,h.size≤b→b<g.size→Upd (· =b) h' j→K e j) g):
  HC PG qw [.pointer (some ⟨sp,0,none⟩),.int .u32 id,.func (.func f) #[] cap] Q5 K h:=by
 refine EJ (some ⟨sp,0,none⟩) id (.func (.func f) #[] cap) ?_;unfold wR ao bC ag aX aI eX nv FZ iQ VH ML ae aq qo m6 Ea yF;refine cH fun o b1 k1=>⟨_,rfl,_,vc (k1.get0 b) 0,JM (v.upd0 k1) hi fun B w g k=>?_⟩
 refine cH fun j b3 p=>cS (c:=qf D4) (vs:=qf B.1) b3 rfl fun m d u=>af.2 ?_
 have t:=k.size;have a:Upd No o m:=(k.tr p).own u t;have i:=k1.tr a;have A:=bB b1;have n:=a.size;refine⟨_,vc d 0,_,vc d 1,_,vc d 2,_,vc d 3,_,vc d 4,_,vc d 5,HV.mk' ?_⟩;refine(hc B m w i).mono fun e C ⟨x,q⟩=>?_
 exact CC (c:=W2) (e:=e) (x.get0 (a.get0 b1)) fun z y=>q z h.size (av _) (by omega) y
theorem XT{W:Nat→Prop}{h:ad}{kind:Int}{x:Hs}{t:Tr}{l:List Pr}(i:TreeIs W h kind x t l)(v:∀y,W y→y<h.size)(n:fe l)(B:l.length≤60000){f:Nat}(z:h[f]? =some (.cells (gn o).toArray aL (0,0))) {K:An→ad→Prop} (u:∀h',Upd No h h'→K (0,0,0,(look l o.2.2.2.1).getD ⟨#[]⟩,(look l o.2.2.2.1).isSome,0,eH,eH,eH,eH,eH) h'):
  HC PG nK [SM t,.pointer (some ⟨f,0,none⟩)] Q5 K h:=by
 refine AK t ⟨f,0,none⟩ ?_;unfold sH ao bC ag aX aI eX bL ML ae aq m6 yF;refine cH fun D q j=>cH fun E p k=>?_
 have b:=k.get0 q;have a:=j.tr k;have d:=a.size;refine⟨_,vc b 0,_,vc b 1,_,vc b 2,_,vc b 3,_,vc b 4,_,vc b 5,_,vc (a.get0 z) 3,?_⟩;refine Xj (i.upd0 a) (fun y w=>aQ (v y w) d) n (by omega) o.2.2.2.1 fun C g=>?_
 have s:=j.size;exact CC (c:=W2) (e:=(0,0,0,(look l o.2.2.2.1).getD ⟨#[]⟩,(look l o.2.2.2.1).isSome,0,eH,eH,eH,eH,eH)) (g.get0 p) fun A m=>u A ((a.tr g).own m s)
theorem U1(v:VaultAt W h vp s)(b:h[sp]? =some (.cells (PN vp sm last pool).toArray dB (0,0))) (hi:o.2.2.2.2.2.1=0∨o.2.2.2.2.2.1∈ids s.L) (A:∀B,BaseOf s o.2.2.2.2.2.1 B→fe B.2∧B.2.length≤60000) {K:An→ad→Prop}
  (y:∀h' B,BaseOf s o.2.2.2.2.2.1 B→Upd No h h'→K (0,0,0,(look B.2 o.2.2.2.1).getD ⟨#[]⟩,(look B.2 o.2.2.2.1).isSome,0,eH,eH,eH,eH,eH) h'):
  HC PG l8 [.pointer (some ⟨sp,0,none⟩),LG o] Q5 K h:=by
 refine Dj (some ⟨sp,0,none⟩) o ?_;unfold u0 ao bC ag aX aI eX BI FZ ML;refine cH fun C b1 k1=>cH fun p b2 m=>?_
 have a:=k1.tr m;have c1:=m.get0 b1;have u:=k1.size;have G:=bB b2;refine⟨_,vc c1 5,Xl (cap:= #[.pointer (some ⟨h.size,0,none⟩)]) (v.upd0 a) (a.get0 b) hi fun B E k g=>?_⟩
 obtain⟨t,q⟩:=A B k;have n:=v.upd0 (a.tr g);refine XT (k.is n) n.g.lt t q (g.get0 c1) fun H f=>?_
 refine⟨f,fun z F w D x=>?_⟩
 have d:Upd No p z:=(g.tr f).own x w;refine CC (c:=W2) (e:=(0,0,0,(look B.2 o.2.2.2.1).getD ⟨#[]⟩,(look B.2 o.2.2.2.1).isSome,0,eH,eH,eH,eH,eH)) (d.get0 b2) fun i j=>y i B k ((a.tr d).own j u)
end
theorem SU{W:Nat→Prop}{kind:Int}(g:kind=0∨kind=1){x:Hs}{h:ad}(A:∀y,W y→y<h.size){K:Option Addr×Int→ad→Prop}
  (z:∀h' sp b gp gm tm bm nm t sm pb cb,VaultAt (fun y=>W y∨VS.M ⟨gp,gm,tm,bm,nm,kind,x,t,[],1,[],[],[]⟩ y) h' b ⟨gp,gm,tm,bm,nm,kind,x,t,[],1,[],[],[]⟩→h'[sp]? =some (.cells (PN b (some sm) 0 (some ⟨pb,0,none⟩)).toArray dB (0,0))→h'[sm]? =some (.map #[] 0)→PoolAt h' pb cb 16 ((eN 16).map fun j=>((j:Nat):Int)+1)→
   (∀y,VS.M ⟨gp,gm,tm,bm,nm,kind,x,t,[],1,[],[],[]⟩ y→h.size≤y∧y<cb)→h.size≤cb→cb<pb→pb<sm→sm<sp→b<cb→Upd No h h'→K (some ⟨sp,0,none⟩,0) h'):
  HC PG zw [.int .i64 kind,.agg #[.int .u64 x.k0,.int .u64 x.k1,.int .u64 x.mask]] [.c .ptr,.c (.int .i64)] K h:=by
 refine OO kind (x.k0,x.k1,x.mask) ?_;unfold Fx rQ ae AG;refine cH fun C b1 k1=>⟨_,vc b1 0,_,vc b1 1,_,vc b1 2,?_⟩
 have E:=k1.size;refine Xa (W:=W) (x:=x) (fun y d=>aQ (A y d) k1.size) g fun s b gp gm tm bm nm t v F zM p=>af.2 ?_
 refine Qm (n:=16) (by omega) (by omega) fun e o q=>?_
 have c:=Upd.push No e (.map #[] 0);have f:=mF e (.map #[] 0);refine QZ fun u i=>?_
 have i:u=e.push (.map #[] 0):=i;rw[←i]at c f;have D:=p.size;have w:=bB q.2.1;have B:=bB f;refine cH fun m k a=>z m u.size b gp gm tm bm nm t e.size (s.size+1) s.size (v.upd0 ((o.tr c).tr a)) k (a.get0 f) (q.upd0 (c.tr a)) (fun y d=>⟨by have:=zM y d;omega,v.size d⟩) (by omega) (by omega) w B (bB v.blk) ((((k1.tr p).tr o).tr c).tr a)
end Go.Proofs
namespace Go.Proofs
open Go Go.Lift
def formsL:List (Int×List UInt8×List UInt8):= [(0,[99,114,101,97,116,101],[98,105]),(1,[114,101,109,111,118,101],[98]),(2,[116,97,103],[98,105]),(3,[117,110,116,97,103],[98]),(4,[112,117,116],[98,107,118]),(5,[100,114,111,112],[98,107]),(6,[108,111,97,100],[98,112]),(7,[114,111,108,108,98,97,99,107],[98,105]),(8,[109,101,114,103,101],[98,111,119]),(9,[112,114,117,110,101],[]),(10,[103,101,116],[105,107]),(11,[108,105,115,116],[105]),(12,[100,105,102,102],[105,116]),(13,[112,97,116,99,104],[98,99]),(14,[98,101,103,105,110],[105]),(15,[101,100,105,116],[115,107,118]),(16,[101,114,97,115,101],[115,107]),(17,[108,111,111,107],[115,107]),(18,[102,114,101,101,122,101],[115]),(19,[99,111,109,109,105,116],[115,98]),(20,[99,108,111,115,101],[115]),(21,[110,101,97,114],[105,107,119]),(22,[114,97,110,103,101],[105,114]),(23,[104,101,97,100,115],[]),(24,[116,97,103,115],[]),(25,[118,101,114,115,105,111,110,115],[])]
abbrev Jj(f:Int×List UInt8×List UInt8):List Value:= [.int .i64 f.1,.string (aG f.2.1),.string (aG f.2.2)]
theorem XX(f:Int×List UInt8×List UInt8):(Jj f).length=3∧0<3:=⟨rfl,by decide⟩
theorem CY{h:ad}{K:SliceV→ad→Prop}(a:∀h',OwnS Jj 3 ep (fun y=>h.size≤y) h' ⟨some ⟨h.size,0,none⟩,26,26⟩ formsL→Upd No h h'→K ⟨some ⟨h.size,0,none⟩,26,26⟩ h'):HC PG pO [] [.c .slice] K h:=by
 refine MB ?_;unfold DT;have b1:=bI h (formsL.flatMap Jj) ep;have k1:=Upd.hnew No h (formsL.flatMap Jj) ep;refine bj ?_;show K ⟨some (aH h),26,26⟩ (hnew h (formsL.flatMap Jj) ep)
 generalize hnew h (formsL.flatMap Jj) ep=h1 at b1 k1;exact a h1 ⟨rfl,XX,av _,.inr ⟨h.size,[],rfl,av _,by rw[cE];exact b1,rfl⟩⟩ k1
abbrev rT(k:Int):xm:=(k,⟨#[]⟩,⟨#[]⟩,⟨#[]⟩,⟨#[]⟩,0,0,0,0,false,⟨#[]⟩,⟨#[]⟩,false,eH,eH)
theorem yQ{a b:List UInt8}(h:aG a=aG b):a=b:=by
 have:=congrArg (fun x:ByteArray=>x.data.toList) h
 simpa using this
theorem Tj{q w:List UInt8}{ws:List (List UInt8)}(hx:q.length≤1000000)(hw:ix 32 q=w::ws)(P:∀x∈ws,x.length≤1000000){k:Nat}{kd:Int}{F:List UInt8}(hf:formsL[k]? =some (kd,w,F)) (hu:∀j f,j<k→formsL[j]? =some f→f.2.1≠w)
  (hp:∀p∈F,Hg p) {oF:xm} (hr:F.foldl (fun x p=>RL p x) ((ws,true),rT kd)=(([],true),oF)) {h:ad} (l:Laid h) (h4:4≤h.size) {K:xm×Bool→ad→Prop} (hk:∀h',Upd No h h'→K (oF,true) h'):
  HC PG np [.string (aG q)] [.agg [.int .i64,.str,.str,.str,.str,.int .u32,.int .u32,.int .i64,.int .i64,.bool,.str,.str,.bool,.slice,.slice],.c .bool] K h:=by
 refine Dz (aG q) ?_;unfold xU bi cU ao bC ag aX aI eX nv JI bL cI eu W9 wz Us UG bW W8;have S:k<26:=(List.getElem?_eq_some_iff.1 hf).1;have b1:=bI h (gn (rT 0)) aL;have k1:=Upd.hnew No h (gn (rT 0)) aL;have z1:=eT h (gn (rT 0)) aL;refine bj ?_;show HC PG ng _ _ _ (hnew h (gn (rT 0)) aL)
 generalize hnew h (gn (rT 0)) aL=h1 at b1 k1 z1;refine Cx (by rw[cu];exact hx) fun N d ow k3=>CY fun h5 of k5=>?_
 rw[show(aG q).data.toList=q from by simp,hw]at ow
 have Y:=ow.sl (W:=fun y=>N.size≤y) (fun y _ Z=>by omega)
 have hcap:=ow.cap;have hsf:=of.sl (W:=fun y=>h5.size≤y) (fun y _ Z=>by omega)
 have z3:=k3.size;have z5:=k5.size;have kk:=(k1.tr k3).tr k5;refine LoopP.ghost (fun(n:Nat) (t:Int) H=>t=(n:Int)∧n≤k∧Upd No h5 H) (fun n=>k-n) 0 ⟨rfl,aV _,Upd.refl _ _⟩ ?_
 rintro I n t H ⟨rfl,hn,O⟩ hI;refine aF (fun _=>Join.plain ?_) fun c=>absurd (show((n:Int)<((26:Nat):Int)) by omega) c
 obtain⟨f,v⟩:∃f,formsL[n]? =some f:=⟨_,ah (show n<formsL.length from fT hn S)⟩
 obtain⟨fk,fn,fp⟩:=f;obtain⟨a,ha,_,L⟩:=(hsf.upd O fun _ h=>h.elim).at v
 have ha:a=⟨N.size,0,none⟩:=(bq.inj ha).symm;have z8:=O.size;rw[Int.toNat_natCast];refine⟨⟨by omega,show((n:Int)<((26:Nat):Int)) by omega⟩,a,by rw[ha],fk,L 0 _ rfl,aG fn,L 1 _ rfl,aG fp,L 2 _ rfl,bj ?_⟩
 have b14:=bI H [.int .i64 0,.string ⟨#[]⟩,.string ⟨#[]⟩] ep;have k14:=Upd.hnew No H [.int .i64 0,.string ⟨#[]⟩,.string ⟨#[]⟩] ep;have z14:=eT H [.int .i64 0,.string ⟨#[]⟩,.string ⟨#[]⟩] ep;generalize hnew H [.int .i64 0,.string ⟨#[]⟩,.string ⟨#[]⟩] ep=h14 at b14 k14 z14;refine cS (c:= [.int .i64 0,.string ⟨#[]⟩,.string ⟨#[]⟩]) (vs:=Jj (fk,fn,fp)) b14 rfl fun o J u15=>?_
 have A:Upd No H o:=k14.own u15 (av _);have z15:=A.size;have C:=Y.upd ((k5.tr O).tr A) fun _ h=>h.elim
 obtain⟨aw,haw,_,hwc⟩:=C.at0 (g:=fun w=>Value.string (aG w)) (i:=0) (x:=w) rfl
 have hlw:=Y.len;simp only[ay]at hlw;refine⟨aG fn,vc J 1,⟨by omega,by omega⟩,aw,haw,aG w,hwc,?_⟩
 rw[di];by_cases he:fn=w
 rotate_left
 ·rw[decide_eq_false (fun e=>he (yQ e))]
  have D:n<k:=by
   rcases cC n k with h|h
   ·exact h
   ·have:n=k:=by omega
    subst this;rw[hf]at v;exact absurd (by injection v with e;injection e with _ e;injection e with e _;exact e.symm) he
  refine aA.2 ?_;show I (ac .i64 ((n:Int)+1)) o
  rw[cM D (by omega)];exact hI (n+1) _ _ ⟨rfl,D,O.tr A⟩ (by omega)
 ·subst he
  have D:n=k:=by
   rcases cC n k with h|h
   ·exact absurd rfl (hu n _ h v)
   ·omega
  subst D;rw[hf]at v;injection v with e;injection e with e1 e;injection e with _ e2;subst e1 e2;rw[decide_eq_true rfl];refine af.2 ⟨kd,vc J 0,bj ?_⟩;have Q:=bI o (gn (rT 0)) aL;have V:=Upd.hnew No o (gn (rT 0)) aL;have z20:=eT o (gn (rT 0)) aL;generalize hnew o (gn (rT 0)) aL=h20 at Q V z20;refine cS (c:=gn (rT 0)) (vs:=gn (rT kd)) Q rfl fun s b21 X=>⟨⟨by omega,by omega⟩,bj ?_⟩
  have B:Upd No o s:=V.own X (av _);have z21:=B.size;have G:=C.upd B fun _ h=>h.elim
  rw[show(1:Int).toNat=1 from rfl]
  have T:=bI s [.slice (aY d.a 1 d.cap 1) (d.len-1) (d.cap-1),.bool true] gj;have z:=Upd.hnew No s [.slice (aY d.a 1 d.cap 1) (d.len-1) (d.cap-1),.bool true] gj;have z22:=eT s [.slice (aY d.a 1 d.cap 1) (d.len-1) (d.cap-1),.bool true] gj;generalize hnew s [.slice (aY d.a 1 d.cap 1) (d.len-1) (d.cap-1),.bool true] gj=h22 at T z z22
  refine⟨aG F,vc ((B.tr z).get0 J) 2,bj ?_⟩;have u:=Upd.push No h22 (.stringIter (aG F) 0);have b24:=mF h22 (.stringIter (aG F) 0);have z24:(h22.push (.stringIter (aG F) 0)).size=h22.size+1:=by simp
  generalize h22.push (.stringIter (aG F) 0)=h24 at u b24 z24;have E:=(G.sub (l:=1) (hi:=d.len) (m:=d.cap) (c:=d.cap-1) (by omega) (by simp only[ay];omega) hcap).upd (z.tr u) fun _ h=>h.elim
  have e3:((fn::ws).drop 1).take (d.len-1)=ws:=by show ws.take _=_;exact List.take_of_length_le (by omega)
  rw[e3]at E;have r24:RdAt (fun y=>N.size≤y) h24 s.size (ws,true):=⟨⟨⟨aY d.a 1 d.cap 1,d.len-1,d.cap-1⟩,u.get0 T,E,by show d.len-1≤d.cap-1;omega⟩,by show N.size≤s.size;omega,P⟩
  have zb:=X.size;have kA:Upd No h h24:=((((kk.tr O).tr A).tr B).tr z).tr u;refine Tg (b:=s.size) (ob:=o.size) (i:=h22.size) hp (l.upd0 kA) (by omega) (by omega) (by omega) r24 ((z.tr u).get0 b21) (by omega) (by show N.size≤o.size;omega) (by omega) (by omega) (by show N.size≤h22.size;omega) b24 fun h39 U b39 R=>?_
  rw[hr]at U b39;obtain⟨sp,hc,hs,hl⟩:=U.ex;have hsl:sp.len=0:=hs.len;refine Join.plain ⟨_,rfl,true,vc hc 1,aA.2 ⟨_,rfl,sp,vc hc 0,?_⟩⟩;rw[hsl];refine aA.2 (tA b39 (cS (c:=gn (rT 0)) (vs:=gn oF) (R.get (((((((k3.tr k5).tr O).tr A).tr B).tr z).tr u).get0 b1) (show ¬(h.size=s.size∨h.size=o.size∨h.size=h22.size) by omega)) rfl fun h55 b55 u55=>tA b55 (hk h55 ?_)))
  exact(kA.trans R fun y Z=>.inr (by omega)).trans u55 fun y Z=>.inr (by have Z:y=h.size:=Z;omega)
end Go.Proofs
namespace Go.Proofs
open Go Go.Lift
structure OpD where
 k:Int
 b:ByteArray
 o:ByteArray
 key:ByteArray
 v:ByteArray
 i:Int
 t:Int
 s:Int
 w:Int
 back:Bool
 fr:ByteArray
 up:ByteArray
 op:Bool
 ps:List Pr
 cs:List Ch
abbrev d0(k:Int):OpD:=⟨k,⟨#[]⟩,⟨#[]⟩,⟨#[]⟩,⟨#[]⟩,0,0,0,0,false,⟨#[]⟩,⟨#[]⟩,false,[],[]⟩
abbrev eJ(x:ByteArray):List UInt8:=lU x.data.toList
def iB(v:ByteArray)(is:Bool):List UInt8:=if is then eJ v else[46]
def iC(v:ByteArray)(is:Bool):Bool:=is||decide (v.data.toList= [])
abbrev Gk:List UInt8:= [117,112]
abbrev iw:List UInt8:= [100,111,119,110]
def X4(c:Ch):Option (List (List UInt8)):=if iC c.2.1 c.2.2.2.1&&iC c.2.2.1 c.2.2.2.2 then some [eJ c.1,iB c.2.1 c.2.2.2.1,iB c.2.2.1 c.2.2.2.2]else none
def mq:List Ch→Option (List (List UInt8))
 | []=>some []
 |c::l=>match X4 c,mq l with
  |some a,some b=>some (a++b)
  |_,_=>none
def mH(l:List Pr):List (List UInt8):=l.flatMap fun p=> [eJ p.1,eJ p.2]
def cZ(n:Int):Bool:=decide (0≤n)&&decide (n≤2147483647)
def Cl(p:UInt8)(d:OpD):Option (List (List UInt8)):=
 if p=98 then(if ft d.b then some [d.b.data.toList]else none)
 else if p=111 then(if ft d.o then some [d.o.data.toList]else none)
 else if p=107 then some [eJ d.key]
 else if p=118 then some [eJ d.v]
 else if p=105 then some [dL d.i.toNat]
 else if p=116 then some [dL d.t.toNat]
 else if p=115 then(if cZ d.s then some [dL d.s.toNat]else none)
 else if p=119 then(if cZ d.w then some [dL d.w.toNat]else none)
 else if p=114 then some [eJ d.fr,if d.op then[42]else eJ d.up,if d.back then iw else Gk]
 else if p=112 then some (mH d.ps)
 else mq d.cs
def fC(d:OpD):List UInt8→Option (List (List UInt8))
 | []=>some []
 |p::l=>match Cl p d,fC d l with
  |some a,some b=>some (a++b)
  |_,_=>none
def pC(c:UInt8):List (List UInt8)→List UInt8
 | []=> []
 | [w]=>w
 |w::u::l=>w++c::pC c (u::l)
def jQ(d:OpD):Option (List UInt8):=match formsL.find? (fun f=>f.1==d.k)with
 |none=>none
 |some f=>(fC d f.2.2).map fun l=>pC 32 (f.2.1::l)
def dH(s:rB):(List UInt8×Bool)×rB:=if s.1.head? =some [46]then(([],false),(cd s).2)else(((bw s).1,true),(bw s).2)
def gl:Nat→rB→List Pr→rB×List Pr
 |0,s,a=>(s,a)
 |n+1,s,a=>if s.1≠[]∧s.2=true then gl n (bw (bw s).2).2 (a++ [(aG (bw s).1,aG (bw (bw s).2).1)])else(s,a)
def BE(s:rB):Ch×rB:=((aG (bw s).1,aG (dH (bw s).2).1.1,aG (dH (dH (bw s).2).2).1.1,(dH (bw s).2).1.2,(dH (dH (bw s).2).2).1.2),(dH (dH (bw s).2).2).2)
def oe:Nat→rB→List Ch→rB×List Ch
 |0,s,a=>(s,a)
 |n+1,s,a=>if s.1≠[]∧s.2=true then oe n (BE s).2 (a++ [(BE s).1])else(s,a)
def jS(s:rB):(ByteArray×Bool)×rB:=if s.1.head? =some [42]then((⟨#[]⟩,true),(cd s).2)else((aG (bw s).1,false),(bw s).2)
def wA(s:rB):Bool×rB:=(decide ((cd s).1=iw),((cd s).2.1,(cd s).2.2&&(decide ((cd s).1=Gk)||decide ((cd s).1=iw))))
def uw(p:UInt8)(x:rB×OpD):rB×OpD:=
 if p=98 then((gT x.1).2,{x.2 with b:=aG (gT x.1).1})
 else if p=111 then((gT x.1).2,{x.2 with o:=aG (gT x.1).1})
 else if p=107 then((bw x.1).2,{x.2 with key:=aG (bw x.1).1})
 else if p=118 then((bw x.1).2,{x.2 with v:=aG (bw x.1).1})
 else if p=105 then((eI 4294967295 x.1).2,{x.2 with i:=ac .u32 ((eI 4294967295 x.1).1:Int)})
 else if p=116 then((eI 4294967295 x.1).2,{x.2 with t:=ac .u32 ((eI 4294967295 x.1).1:Int)})
 else if p=115 then((eI 2147483647 x.1).2,{x.2 with s:=ac .i64 ((eI 2147483647 x.1).1:Int)})
 else if p=119 then((eI 2147483647 x.1).2,{x.2 with w:=ac .i64 ((eI 2147483647 x.1).1:Int)})
 else if p=114 then((wA (jS (bw x.1).2).2).2,{x.2 with fr:=aG (bw x.1).1,up:=(if(jS (bw x.1).2).1.2 then x.2.up else(jS (bw x.1).2).1.1),op:=(if(jS (bw x.1).2).1.2 then true else x.2.op),back:=(wA (jS (bw x.1).2).2).1})
 else if p=112 then((gl x.1.1.length x.1 x.2.ps).1,{x.2 with ps:=(gl x.1.1.length x.1 x.2.ps).2})
 else((oe x.1.1.length x.1 x.2.cs).1,{x.2 with cs:=(oe x.1.1.length x.1 x.2.cs).2})
def fV(a:List UInt8)(x:rB×OpD):rB×OpD:=a.foldl (fun x p=>uw p x) x
def iq(a:List UInt8):Option OpD:=match ix 32 a with
 | []=>none
 |w::ws=>match formsL.find? (fun f=>f.2.1==w)with
  |none=>none
  |some f=>if(fV f.2.2 ((ws,true),d0 f.1)).1.2=true∧(fV f.2.2 ((ws,true),d0 f.1)).1.1= []then some (fV f.2.2 ((ws,true),d0 f.1)).2 else none
theorem nx(w:List UInt8)(ws:List (List UInt8))(ok:Bool):cd (w::ws,ok)=(w,(ws,ok)):=rfl
theorem rg(x:ByteArray)(r:List (List UInt8)):bw (eJ x::r,true)=(x.data.toList,(r,true)):=by
 unfold bw;rw[nx];simp only[JN];rfl
theorem CE{n m:Nat}(h:n≤m)(hm:m<18446744073709551616)(r:List (List UInt8)):eI m (dL n::r,true)=(n,(r,true)):=by
 unfold eI;rw[nx];simp only[CI (fT h hm)];simp[h]
theorem Ka{x:ByteArray}(h:ft x=true)(r:List (List UInt8)):gT (x.data.toList::r,true)=(x.data.toList,(r,true)):=by
 unfold gT;rw[nx];simp only[JO,h];rfl
theorem KC{l:List UInt8}(h:l≠[]):2≤(yH l).length:=by
 rw[wD];cases l with
 |nil=>exact absurd rfl h
 |cons=>simp;omega
theorem Ff(x:ByteArray):eJ x≠[46]:=by
 unfold eJ lU;split
 ·decide
 ·rename_i h;intro e;have:=KC h;rw[e]at this;simp at this
theorem LV(x:ByteArray):eJ x≠[42]:=by
 unfold eJ lU;split
 ·decide
 ·rename_i h;intro e;have:=KC h;rw[e]at this;simp at this
theorem JZ{v:ByteArray}{is:Bool}(h:iC v is=true)(r:List (List UInt8)):dH (iB v is::r,true)=((v.data.toList,is),(r,true)):=by
 unfold dH iB;cases is with
 |true=>
  have e:¬((eJ v::r,true):rB).1.head? =some [46]:=fun e=>Ff v (bq.inj e)
  show(if((eJ v::r,true):rB).1.head? =some [46]then _ else(((bw (eJ v::r,true)).1,true),(bw (eJ v::r,true)).2))=_
  rw[if_neg e,rg]
 |false=>
  have h:v.data.toList= []:=by simpa[iC]using h
  rw[h];rfl
theorem Ha:∀(l:List Pr) (n:Nat) (a:List Pr),2*l.length≤n→gl n (mH l,true) a=(([],true),a++l)
 | [],n,a,_=>by
  show gl n ([],true) a=_
  cases n<;>simp[gl]
 |p::l,0,a,h=>by simp at h
 |p::l,n+1,a,h=>by
  show gl (n+1) (eJ p.1::eJ p.2::mH l,true) a=_
  rw[gl,if_pos ⟨by simp,rfl⟩,rg,rg,Ha l n _ (by simp only[ay]at h;omega)];simp[JO]
theorem CF:∀l:List Pr,(mH l).length=2*l.length
 | []=>rfl
 |p::l=>by show(eJ p.1::eJ p.2::mH l).length=_;simp only[ay,CF l];omega
theorem wJ{c:Ch}{l:List Ch}{ws:List (List UInt8)}(h:mq (c::l)=some ws):∃b,iC c.2.1 c.2.2.2.1=true∧iC c.2.2.1 c.2.2.2.2=true∧mq l=some b∧ws=eJ c.1::iB c.2.1 c.2.2.2.1::iB c.2.2.1 c.2.2.2.2::b:=by
 unfold mq at h;unfold X4 at h;split at h
 ·rename_i a b e1 e2
  split at e1
  ·rename_i e3
   rw[aJ]at e3;cases e1;cases h;exact⟨b,e3.1,e3.2,e2,rfl⟩
  ·cases e1
 ·cases h
theorem Xt{c:Ch}(a:iC c.2.1 c.2.2.2.1=true)(b:iC c.2.2.1 c.2.2.2.2=true)(r:List (List UInt8)):BE (eJ c.1::iB c.2.1 c.2.2.2.1::iB c.2.2.1 c.2.2.2.2::r,true)=(c,(r,true)):=by
 unfold BE;rw[rg,JZ a,JZ b]
theorem Nu:∀(l:List Ch) (ws:List (List UInt8)) (n:Nat) (a:List Ch),mq l=some ws→ws.length≤n→oe n (ws,true) a=(([],true),a++l)
 | [],ws,n,a,h,_=>by
  cases h;cases n<;>simp[oe]
 |c::l,ws,n,a,h,hn=>by
  obtain⟨b,d,e,f,rfl⟩:=wJ h;cases n with
  |zero=>simp at hn
  |succ n=>
   rw[oe,if_pos ⟨by simp,rfl⟩,Xt d e];simp only;rw[Nu l b n _ f (by simp only[ay]at hn;omega)];simp
def W4(d:OpD):Prop:=0≤d.i∧d.i≤4294967295∧0≤d.t∧d.t≤4294967295
abbrev kp:List UInt8:= [98,111,107,118,105,116,115,119,114,112,99]
theorem YS{p:UInt8}(f:p∈kp){d:OpD}{l:List (List UInt8)}(c:W4 d)(h:Cl p d=some l)(r:List (List UInt8))(a:(p=112∨p=99)→r= [])(d':OpD):(uw p ((l++r,true),d')).1=(r,true):=by
 simp only[ar,bX,or_false]at f;rcases f with rfl|rfl|rfl|rfl|rfl|rfl|rfl|rfl|rfl|rfl|rfl
 ·have h:(if ft d.b then some [d.b.data.toList]else none)=some l:=h
  split at h
  ·rename_i e;cases h
   show(gT (d.b.data.toList::r,true)).2=_
   rw[Ka e]
  ·cases h
 ·have h:(if ft d.o then some [d.o.data.toList]else none)=some l:=h
  split at h
  ·rename_i e;cases h
   show(gT (d.o.data.toList::r,true)).2=_
   rw[Ka e]
  ·cases h
 ·cases h
  show(bw (eJ d.key::r,true)).2=_
  rw[rg]
 ·cases h
  show(bw (eJ d.v::r,true)).2=_
  rw[rg]
 ·cases h
  show(eI 4294967295 (dL d.i.toNat::r,true)).2=_
  rw[CE (by have:=c.2.1;omega) (by omega)]
 ·cases h
  show(eI 4294967295 (dL d.t.toNat::r,true)).2=_
  rw[CE (by have:=c.2.2.2;omega) (by omega)]
 ·have h:(if cZ d.s then some [dL d.s.toNat]else none)=some l:=h
  split at h
  ·rename_i e;cases h
   simp only[cZ,aJ,decide_eq_true_eq]at e;show(eI 2147483647 (dL d.s.toNat::r,true)).2=_
   rw[CE (by omega) (by omega)]
  ·cases h
 ·have h:(if cZ d.w then some [dL d.w.toNat]else none)=some l:=h
  split at h
  ·rename_i e;cases h
   simp only[cZ,aJ,decide_eq_true_eq]at e;show(eI 2147483647 (dL d.w.toNat::r,true)).2=_
   rw[CE (by omega) (by omega)]
  ·cases h
 ·have h:some [eJ d.fr,if d.op then[42]else eJ d.up,if d.back then iw else Gk]=some l:=h
  cases h;show(wA (jS (bw (eJ d.fr::(if d.op then[42]else eJ d.up)::(if d.back then iw else Gk)::r,true)).2).2).2=_
  rw[rg];have b:(jS ((if d.op then[42]else eJ d.up)::(if d.back then iw else Gk)::r,true)).2=((if d.back then iw else Gk)::r,true):=by
   unfold jS;cases d.op with
   |true=>rfl
   |false=>
    have e:¬((eJ d.up::(if d.back then iw else Gk)::r,true):rB).1.head? =some [42]:=fun e=>LV d.up (bq.inj e)
    show(if((eJ d.up::(if d.back then iw else Gk)::r,true):rB).1.head? =some [42]then _ else((aG (bw (eJ d.up::(if d.back then iw else Gk)::r,true)).1,false),(bw (eJ d.up::(if d.back then iw else Gk)::r,true)).2)).2=_
    rw[if_neg e,rg]
  show(wA (jS ((if d.op then[42]else eJ d.up)::(if d.back then iw else Gk)::r,true)).2).2=_
  rw[b];cases d.back<;>rfl
 ·have a:=a (.inl rfl)
  subst a;cases h;rw[cE];show(gl (mH d.ps).length (mH d.ps,true) d'.ps).1=_
  rw[Ha _ _ _ (by rw[CF];exact av _)]
 ·have a:=a (.inr rfl)
  subst a;have h:mq d.cs=some l:=h;rw[cE];show(oe l.length (l,true) d'.cs).1=_
  rw[Nu _ _ _ _ h (av _)]
def NR:List UInt8→Bool
 | []=>true
 |p::l=>([98,111,107,118,105,116,115,119,114].contains p||l.isEmpty)&&NR l
theorem RQ{d:OpD}(f:W4 d):∀(pt:List UInt8) (l:List (List UInt8)) (d':OpD),(∀q∈pt,q∈kp)→NR pt=true→fC d pt=some l→(fV pt ((l,true),d')).1=([],true)
 | [],l,d',_,_,h=>by cases h;rfl
 |p::pt,l,d',hk,ho,h=>by
  unfold fC at h;split at h
  ·rename_i a b e1 e2
   cases h;rw[NR,aJ,Bool.or_eq_true]at ho;have i:=YS (hk p (aP ..)) f e1 b (fun c=>by
    rcases ho.1 with e|e
    ·rcases c with rfl|rfl<;>exact absurd e (by decide)
    ·have e:pt= []:=by simpa using e
     subst e;cases e2;rfl) d'
   show(fV pt (uw p ((a++b,true),d'))).1=_
   have c:uw p ((a++b,true),d')=((b,true),(uw p ((a++b,true),d')).2):=by rw[←i]
   rw[c];exact RQ f pt b _ (fun q g=>hk q (aK _ g)) ho.2 e2
  ·cases h
theorem Ew:∀f∈formsL,NR f.2.2=true∧(32:UInt8)∉f.2.1∧f.2.1≠[]:=by decide+kernel
theorem tH:∀f∈formsL,(∀q∈f.2.2,q∈kp)∧f.2.2.Nodup:=by decide+kernel
theorem Oi:∀f∈formsL,∀g∈formsL,(f.1=g.1→f=g)∧(f.2.1=g.2.1→f=g):=by decide+kernel
theorem QL{f:Int×List UInt8×List UInt8}(b:f∈formsL){k:Int}(a:f.1=k):formsL.find? (fun f=>f.1==k)=some f:=by
 cases e:formsL.find? (fun f=>f.1==k)with
 |none=>exact absurd (by simpa using a) (jt.1 e f b)
 |some g=>
  have c:=sg e;have d:=fG e;rw[(Oi f b g d).1 (a.trans (show g.1=k by simpa using c).symm)]
theorem LZ{f:Int×List UInt8×List UInt8}(a:f∈formsL):formsL.find? (fun g=>g.2.1==f.2.1)=some f:=by
 cases e:formsL.find? (fun g=>g.2.1==f.2.1)with
 |none=>exact absurd (by simp) (jt.1 e f a)
 |some g=>
  have b:=sg e;have c:=fG e;rw[(Oi f a g c).2 (show g.2.1=f.2.1 by simpa using b).symm]
theorem OB{c:UInt8}:∀(w:List UInt8) (l:List (List UInt8)),(∀x∈w::l,c∉x)→ix c (pC c (w::l))=w::l
 |w,[],h=>wI (h w (aP ..))
 |w,u::l,h=>by
  show ix c (w++c::pC c (u::l))=_
  rw[zO (h w (aP ..)),OB u l fun x hx=>h x (aK _ hx)]
theorem N8(c:UInt8):∀l:List UInt8,pC c (ix c l)=l
 | []=>rfl
 |a::l=>by
  have b:=N8 c l;unfold ix;cases e:ix c l with
  |nil=>exact absurd e (GB c l)
  |cons w ws=>
   rw[e]at b;split
   ·rename_i ea
    show[]++c::pC c (w::ws)=_
    rw[b,ea];rfl
   ·cases ws with
    |nil=>show a::w=_;rw[←b];rfl
    |cons u ws=>
     show(a::w)++c::pC c (u::ws)=_
     rw[←b];rfl
theorem Sc(n:Nat)(h:n<16):sS n≠32:=by
 have:∀n:Fin 16,sS n.val≠32:=by decide+kernel
 exact this ⟨n,h⟩
theorem xD(x:ByteArray):(32:UInt8)∉eJ x:=by
 unfold eJ lU;split
 ·decide
 ·unfold yH
  rw[List.mem_flatMap];rintro⟨b,_,a⟩;have:=b.toNat_lt;simp only[ar,bX,or_false]at a;rcases a with e|e
  ·exact Sc _ (by omega) e.symm
  ·exact Sc _ (by omega) e.symm
theorem GA(n:Nat):(32:UInt8)∉dL n:=fun h=>by
 have:=kK.1 (C5 n).1 _ h;exact absurd this (by decide)
theorem RY{x:ByteArray}(h:ft x=true):(32:UInt8)∉x.data.toList:=fun hm=>by
 unfold ft at h;rw[aJ]at h;exact absurd (kK.1 h.2 _ hm) (by decide)
theorem Ng(v:ByteArray)(is:Bool):(32:UInt8)∉iB v is:=by
 unfold iB;split
 ·exact xD v
 ·decide
theorem Sq:∀(l:List Ch) (ws:List (List UInt8)),mq l=some ws→∀x∈ws,(32:UInt8)∉x
 | [],ws,h,x,hx=>by cases h;cases hx
 |c::l,ws,h,x,hx=>by
  obtain⟨b,_,_,a,rfl⟩:=wJ h;simp only[ar]at hx;rcases hx with rfl|rfl|rfl|hx
  ·exact xD _
  ·exact Ng _ _
  ·exact Ng _ _
  ·exact Sq l b a x hx
theorem Yz{p:UInt8}{d:OpD}{l:List (List UInt8)}(h:Cl p d=some l):∀x∈l,(32:UInt8)∉x:=by
 unfold Cl at h;have one:∀{y:List UInt8},(32:UInt8)∉y→∀x∈[y],(32:UInt8)∉x:=fun b x hx=>by rw[List.mem_singleton.1 hx];exact b
 split at h
 ·split at h
  ·rename_i e;cases h;exact one (RY e)
  ·cases h
 split at h
 ·split at h
  ·rename_i e;cases h;exact one (RY e)
  ·cases h
 split at h
 ·cases h;exact one (xD _)
 split at h
 ·cases h;exact one (xD _)
 split at h
 ·cases h;exact one (GA _)
 split at h
 ·cases h;exact one (GA _)
 split at h
 ·split at h
  ·cases h;exact one (GA _)
  ·cases h
 split at h
 ·split at h
  ·cases h;exact one (GA _)
  ·cases h
 split at h
 ·cases h
  intro x hx;simp only[ar,bX,or_false]at hx;rcases hx with rfl|rfl|rfl
  ·exact xD _
  ·split
   ·decide
   ·exact xD _
  ·split<;>decide
 split at h
 ·cases h
  intro x hx;unfold mH at hx;rw[List.mem_flatMap]at hx;obtain⟨p,_,a⟩:=hx;simp only[ar,bX,or_false]at a;rcases a with rfl|rfl<;>exact xD _
 ·exact Sq _ _ h
theorem RD{d:OpD}:∀(pt:List UInt8) (l:List (List UInt8)),fC d pt=some l→∀x∈l,(32:UInt8)∉x
 | [],l,h,x,hx=>by cases h;cases hx
 |p::pt,l,h,x,hx=>by
  unfold fC at h;split at h
  ·rename_i a b e1 e2
   cases h;rcases List.mem_append.1 hx with hx|hx
   ·exact Yz e1 x hx
   ·exact RD pt b e2 x hx
  ·cases h
theorem Hi{d:OpD}(j:W4 d){a:List UInt8}(h:jQ d=some a):(iq a).isSome=true:=by
 unfold jQ at h;cases e:formsL.find? (fun f=>f.1==d.k)with
 |none=>rw[e]at h;cases h
 |some f=>
  rw[e]at h;have b:=fG e;obtain⟨l,c,rfl⟩:=eA.1 h;obtain⟨i,g,_⟩:=Ew f b;unfold iq;rw[OB f.2.1 l fun x hx=>by
   rcases ar.1 hx with rfl|hx
   ·exact g
   ·exact RD _ _ c x hx]
  simp only[LZ b];rw[RQ j _ _ _ (tH f b).1 i c];simp
end Go.Proofs
