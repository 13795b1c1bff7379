/- A part of the proof that the named laws of this program answer true, whatever the input. -/
import Derived.Test.YtopdngagmfanlaaGreatDoorPart4
import Derived.Test.YtopdngagmfanlaaGreatDoorPart6
import Derived.Test.YtopdngagmfanlaaGreatDoorPart5
import Derived.Test.YtopdngagmfanlaaGreatDoorTreeF0
import Derived.Test.YtopdngagmfanlaaGreatDoorTreeF1
import Derived.Test.YtopdngagmfanlaaGreatDoorTreeF2
import Derived.Test.YtopdngagmfanlaaGreatDoorPart0
import Derived.Conc.LoneSelect
import Derived.KernelRfl
import Derived.Laws.Rows
import Derived.Test.YtopdngagmfanlaaGreatDoorPart1
open Bool renaming and_eq_true→aJ
open Go.IntKind renaming wrap→ac
open List renaming getElem?_eq_getElem→ax,foldl_append→l9,range→eI,append_nil→cE,length_cons→ay,mem_cons→ar,not_mem_nil→bU,mem_cons_self→aN,mem_cons_of_mem→aI,find?_eq_none→jk,find?_some→rO,mem_of_find?_eq_some→gB,all_eq_true→kw
open Nat renaming zero_le→bc,le_refl→au,lt_of_lt_of_le→aO,lt_of_le_of_lt→fQ,lt_or_ge→cC
open Option renaming map_eq_some_iff→ft,some→bp
namespace Go.Proofs
open Go Go.Lift
abbrev ZH(o:xp)(x:ByteArray):xp:=(o.1,x,o.2.2)
abbrev ptO(o:xp)(x:ByteArray):xp:=(o.1,o.2.1,x,o.2.2.2)
abbrev ZF(o:xp)(x:ByteArray):xp:=(o.1,o.2.1,o.2.2.1,x,o.2.2.2.2)
abbrev Z4(o:xp)(x:ByteArray):xp:=(o.1,o.2.1,o.2.2.1,o.2.2.2.1,x,o.2.2.2.2.2)
abbrev ZG(o:xp)(x:Int):xp:=(o.1,o.2.1,o.2.2.1,o.2.2.2.1,o.2.2.2.2.1,x,o.2.2.2.2.2.2)
abbrev ptT(o:xp)(x:Int):xp:=(o.1,o.2.1,o.2.2.1,o.2.2.2.1,o.2.2.2.2.1,o.2.2.2.2.2.1,x,o.2.2.2.2.2.2.2)
abbrev ptS(o:xp)(x:Int):xp:=(o.1,o.2.1,o.2.2.1,o.2.2.2.1,o.2.2.2.2.1,o.2.2.2.2.2.1,o.2.2.2.2.2.2.1,x,o.2.2.2.2.2.2.2.2)
abbrev ptW(o:xp)(x:Int):xp:=(o.1,o.2.1,o.2.2.1,o.2.2.2.1,o.2.2.2.2.1,o.2.2.2.2.2.1,o.2.2.2.2.2.2.1,o.2.2.2.2.2.2.2.1,x,o.2.2.2.2.2.2.2.2.2)
section
variable {W M:Nat→Prop} {h h':ad} {b ob:Nat} {s:rj} {o:xp}
theorem RdAt.updO(r:RdAt W h b s)(u:Upd (· =ob) h h')(a:ob≠b)(d:W ob):RdAt W h' b s:=r.upd u (fun e=>a (by have e:b=ob:=e;exact e.symm)) fun y c=>.inl (by have c:y=ob:=c;rw[c];exact d)
theorem xA{c:ad}(e:Upd (· =b) h c)(d:Upd (· =ob) c h'):Upd (fun y=>y=b∨y=ob) h h':=(e.mono fun y a=>.inl (.inl a)).tr (d.mono fun y a=>.inl (.inr a))
theorem Ms(r:RdAt W h b s)(c:h[ob]? =some (.cells (ia o).toArray aR (0,0))) (a:ob≠b) (k:W ob) {K:Unit→ad→Prop}
  (j:∀h',RdAt W h' b (gJ s).2→h'[ob]? =some (.cells (ia (ZH o (aG (gJ s).1))).toArray aR (0,0))→Upd (fun y=>y=b∨y=ob) h h'→K () h'):HC PG bZ [.pointer (some ⟨b,0,none⟩),.pointer (some ⟨ob,0,none⟩),.int .i32 98] [] K h:=by
 refine dx (some ⟨b,0,none⟩) (some ⟨ob,0,none⟩) 98 ?_;unfold cZ ah aZ nv cJ iA ez uf nO bM bT vS iY;refine CondP.intro (fun _=>?_) fun e=>absurd e (by decide)
 exact Nj r fun m g d=>⟨_,rfl,oz (d.get c a) (by simp) rfl fun i b2 f=>j i (g.updO f a k) b2 (xA d f)⟩
theorem Mp(r:RdAt W h b s)(c:h[ob]? =some (.cells (ia o).toArray aR (0,0))) (a:ob≠b) (k:W ob) {K:Unit→ad→Prop}
  (j:∀h',RdAt W h' b (gJ s).2→h'[ob]? =some (.cells (ia (ptO o (aG (gJ s).1))).toArray aR (0,0))→Upd (fun y=>y=b∨y=ob) h h'→K () h'):HC PG bZ [.pointer (some ⟨b,0,none⟩),.pointer (some ⟨ob,0,none⟩),.int .i32 111] [] K h:=by
 refine dx (some ⟨b,0,none⟩) (some ⟨ob,0,none⟩) 111 ?_;unfold cZ ah aZ nv cJ iA ez uf nO bM bT vS iY;refine CondP.intro (fun e=>absurd e (by decide)) fun _=>CondP.intro (fun _=>?_) fun e=>absurd e (by decide)
 exact Nj r fun m g d=>⟨_,rfl,oz (d.get c a) (by simp) rfl fun i b2 f=>j i (g.updO f a k) b2 (xA d f)⟩
theorem Mq(r:RdAt W h b s)(c:h[ob]? =some (.cells (ia o).toArray aR (0,0))) (a:ob≠b) (k:W ob) {K:Unit→ad→Prop}
  (j:∀h',RdAt W h' b (bw s).2→h'[ob]? =some (.cells (ia (ZF o (aG (bw s).1))).toArray aR (0,0))→Upd (fun y=>y=b∨y=ob) h h'→K () h'):HC PG bZ [.pointer (some ⟨b,0,none⟩),.pointer (some ⟨ob,0,none⟩),.int .i32 107] [] K h:=by
 refine dx (some ⟨b,0,none⟩) (some ⟨ob,0,none⟩) 107 ?_;unfold cZ ah aZ nv cJ iA ez uf nO bM bT vS iY;refine CondP.intro (fun e=>absurd e (by decide)) fun _=>CondP.intro (fun e=>absurd e (by decide)) fun _=>CondP.intro (fun _=>?_) fun e=>absurd e (by decide)
 exact um r fun m g d=>⟨_,rfl,oz (d.get c a) (by simp) rfl fun i b2 f=>j i (g.updO f a k) b2 (xA d f)⟩
theorem Mm(r:RdAt W h b s)(c:h[ob]? =some (.cells (ia o).toArray aR (0,0))) (a:ob≠b) (k:W ob) {K:Unit→ad→Prop}
  (j:∀h',RdAt W h' b (bw s).2→h'[ob]? =some (.cells (ia (Z4 o (aG (bw s).1))).toArray aR (0,0))→Upd (fun y=>y=b∨y=ob) h h'→K () h'):HC PG bZ [.pointer (some ⟨b,0,none⟩),.pointer (some ⟨ob,0,none⟩),.int .i32 118] [] K h:=by
 refine dx (some ⟨b,0,none⟩) (some ⟨ob,0,none⟩) 118 ?_;unfold cZ ah aZ nv cJ iA ez uf nO bM bT vS iY;refine CondP.intro (fun e=>absurd e (by decide)) fun _=>CondP.intro (fun e=>absurd e (by decide)) fun _=>CondP.intro (fun e=>absurd e (by decide)) fun _=>CondP.intro (fun _=>?_) fun e=>absurd e (by decide)
 exact um r fun m g d=>⟨_,rfl,oz (d.get c a) (by simp) rfl fun i b2 f=>j i (g.updO f a k) b2 (xA d f)⟩
theorem Mr(l:Laid h)(d:4≤b)(r:RdAt W h b s)(c:h[ob]? =some (.cells (ia o).toArray aR (0,0))) (a:ob≠b) (m:W ob) {K:Unit→ad→Prop}
  (k:∀h',RdAt W h' b (eC 4294967295 s).2→h'[ob]? =some (.cells (ia (ZG o (ac .u32 ((eC 4294967295 s).1:Int)))).toArray aR (0,0))→Upd (fun y=>y=b∨y=ob) h h'→K () h'):HC PG bZ [.pointer (some ⟨b,0,none⟩),.pointer (some ⟨ob,0,none⟩),.int .i32 105] [] K h:=by
 refine dx (some ⟨b,0,none⟩) (some ⟨ob,0,none⟩) 105 ?_;unfold cZ ah aZ nv cJ iA ez uf nO bM bT vS iY;refine CondP.intro (fun e=>absurd e (by decide)) fun _=>CondP.intro (fun e=>absurd e (by decide)) fun _=>CondP.intro (fun e=>absurd e (by decide)) fun _=>CondP.intro (fun e=>absurd e (by decide)) fun _=>CondP.intro (fun _=>?_) fun e=>absurd e (by decide)
 exact FR (most:=4294967295) l d (by omega) r fun n i f=>⟨_,rfl,oz (f.get c a) (by simp) rfl fun j b2 g=>k j (i.updO g a m) b2 (xA f g)⟩
theorem Mn(l:Laid h)(d:4≤b)(r:RdAt W h b s)(c:h[ob]? =some (.cells (ia o).toArray aR (0,0))) (a:ob≠b) (m:W ob) {K:Unit→ad→Prop}
  (k:∀h',RdAt W h' b (eC 4294967295 s).2→h'[ob]? =some (.cells (ia (ptT o (ac .u32 ((eC 4294967295 s).1:Int)))).toArray aR (0,0))→Upd (fun y=>y=b∨y=ob) h h'→K () h'):HC PG bZ [.pointer (some ⟨b,0,none⟩),.pointer (some ⟨ob,0,none⟩),.int .i32 116] [] K h:=by
 refine dx (some ⟨b,0,none⟩) (some ⟨ob,0,none⟩) 116 ?_;unfold cZ ah aZ nv cJ iA ez uf nO bM bT vS iY;refine CondP.intro (fun e=>absurd e (by decide)) fun _=>CondP.intro (fun e=>absurd e (by decide)) fun _=>CondP.intro (fun e=>absurd e (by decide)) fun _=>CondP.intro (fun e=>absurd e (by decide)) fun _=>CondP.intro (fun e=>absurd e (by decide)) fun _=>CondP.intro (fun _=>?_) fun e=>absurd e (by decide)
 exact FR (most:=4294967295) l d (by omega) r fun n i f=>⟨_,rfl,oz (f.get c a) (by simp) rfl fun j b2 g=>k j (i.updO g a m) b2 (xA f g)⟩
theorem Mo(l:Laid h)(d:4≤b)(r:RdAt W h b s)(c:h[ob]? =some (.cells (ia o).toArray aR (0,0))) (a:ob≠b) (m:W ob) {K:Unit→ad→Prop}
  (k:∀h',RdAt W h' b (eC 2147483647 s).2→h'[ob]? =some (.cells (ia (ptS o (ac .i64 ((eC 2147483647 s).1:Int)))).toArray aR (0,0))→Upd (fun y=>y=b∨y=ob) h h'→K () h'):HC PG bZ [.pointer (some ⟨b,0,none⟩),.pointer (some ⟨ob,0,none⟩),.int .i32 115] [] K h:=by
 refine dx (some ⟨b,0,none⟩) (some ⟨ob,0,none⟩) 115 ?_;unfold cZ ah aZ nv cJ iA ez uf nO bM bT vS iY;refine CondP.intro (fun e=>absurd e (by decide)) fun _=>CondP.intro (fun e=>absurd e (by decide)) fun _=>CondP.intro (fun e=>absurd e (by decide)) fun _=>CondP.intro (fun e=>absurd e (by decide)) fun _=>CondP.intro (fun e=>absurd e (by decide)) fun _=>CondP.intro (fun e=>absurd e (by decide)) fun _=>CondP.intro (fun _=>?_) fun e=>absurd e (by decide)
 exact FR (most:=2147483647) l d (by omega) r fun n i f=>⟨_,rfl,oz (f.get c a) (by simp) rfl fun j b2 g=>k j (i.updO g a m) b2 (xA f g)⟩
theorem Ml(l:Laid h)(d:4≤b)(r:RdAt W h b s)(c:h[ob]? =some (.cells (ia o).toArray aR (0,0))) (a:ob≠b) (m:W ob) {K:Unit→ad→Prop}
  (k:∀h',RdAt W h' b (eC 2147483647 s).2→h'[ob]? =some (.cells (ia (ptW o (ac .i64 ((eC 2147483647 s).1:Int)))).toArray aR (0,0))→Upd (fun y=>y=b∨y=ob) h h'→K () h'):HC PG bZ [.pointer (some ⟨b,0,none⟩),.pointer (some ⟨ob,0,none⟩),.int .i32 119] [] K h:=by
 refine dx (some ⟨b,0,none⟩) (some ⟨ob,0,none⟩) 119 ?_;unfold cZ ah aZ nv cJ iA ez uf nO bM bT vS iY;refine CondP.intro (fun e=>absurd e (by decide)) fun _=>CondP.intro (fun e=>absurd e (by decide)) fun _=>CondP.intro (fun e=>absurd e (by decide)) fun _=>CondP.intro (fun e=>absurd e (by decide)) fun _=>CondP.intro (fun e=>absurd e (by decide)) fun _=>CondP.intro (fun e=>absurd e (by decide)) fun _=>CondP.intro (fun e=>absurd e (by decide)) fun _=>CondP.intro (fun _=>?_) fun e=>absurd e (by decide)
 exact FR (most:=2147483647) l d (by omega) r fun n i f=>⟨_,rfl,oz (f.get c a) (by simp) rfl fun j b2 g=>k j (i.updO g a m) b2 (xA f g)⟩
end
end Go.Proofs
namespace Go.Proofs
open Go Go.Lift
def Q6(p:UInt8)(x:rj×xp):rj×xp:=
 if p=98 then((gJ x.1).2,ZH x.2 (aG (gJ x.1).1))
 else if p=111 then((gJ x.1).2,ptO x.2 (aG (gJ x.1).1))
 else if p=107 then((bw x.1).2,ZF x.2 (aG (bw x.1).1))
 else if p=118 then((bw x.1).2,Z4 x.2 (aG (bw x.1).1))
 else if p=105 then((eC 4294967295 x.1).2,ZG x.2 (ac .u32 ((eC 4294967295 x.1).1:Int)))
 else if p=116 then((eC 4294967295 x.1).2,ptT x.2 (ac .u32 ((eC 4294967295 x.1).1:Int)))
 else if p=115 then((eC 2147483647 x.1).2,ptS x.2 (ac .i64 ((eC 2147483647 x.1).1:Int)))
 else if p=119 then((eC 2147483647 x.1).2,ptW x.2 (ac .i64 ((eC 2147483647 x.1).1:Int)))
 else x
def GL(p:UInt8):Prop:=p=98∨p=111∨p=107∨p=118∨p=105∨p=116∨p=115∨p=119
section
variable {W M:Nat→Prop} {h h':ad} {b ob i:Nat} {s:rj} {o:xp}
theorem T8{p:UInt8}(g:GL p)(l:Laid h)(d:4≤b)(r:RdAt W h b s)(a:h[ob]? =some (.cells (ia o).toArray aR (0,0))) (c:ob≠b) (f:W ob) {K:Unit→ad→Prop}
  (e:∀h',RdAt W h' b (Q6 p (s,o)).1→h'[ob]? =some (.cells (ia (Q6 p (s,o)).2).toArray aR (0,0))→Upd (fun y=>y=b∨y=ob) h h'→K () h'):HC PG bZ [.pointer (some ⟨b,0,none⟩),.pointer (some ⟨ob,0,none⟩),.int .i32 (p.toNat:Int)] [] K h:=by
 rcases g with rfl|rfl|rfl|rfl|rfl|rfl|rfl|rfl
 ·exact Ms r a c f e
 ·exact Mp r a c f e
 ·exact Mq r a c f e
 ·exact Mm r a c f e
 ·exact Mr l d r a c f e
 ·exact Mn l d r a c f e
 ·exact Mo l d r a c f e
 ·exact Ml l d r a c f e
theorem Sv{p:UInt8}(a:GL p):p.toNat<128:=by
 rcases a with rfl|rfl|rfl|rfl|rfl|rfl|rfl|rfl<;>decide
theorem Sy{a:List UInt8}(O:∀p∈a,GL p)(l:Laid h)(C:4≤b)(S:4≤ob)(U:4≤i)(r:RdAt W h b s)(K:h[ob]? =some (.cells (ia o).toArray aR (0,0))) (H:ob≠b) (R:W ob) (t:i≠b) (z:i≠ob) (A:W i)
  (E:h[i]? =some (.stringIter (aG a) 0)) {Kend:ad→Prop}
  (m:∀h',RdAt W h' b (a.foldl (fun x p=>Q6 p x) (s,o)).1→h'[ob]? =some (.cells (ia (a.foldl (fun x p=>Q6 p x) (s,o)).2).toArray aR (0,0))→Upd (fun y=>y=b∨y=ob∨y=i) h h'→Kend h'):
  LoopP (fun(I:Unit→ad→Prop) (_:Unit) u=>NextS ⟨i,0,none⟩ u (Kend u) (fun Y J B=>HC PG bZ [.pointer (some ⟨b,0,none⟩),.pointer (some ⟨ob,0,none⟩),.int .i32 (J.toNat:Int)] [] (fun(Z:Unit) F=>I () F) B)) () h:=by
 refine LoopP.ghost (fun(n:Nat) (_:Unit) f=>n≤a.length∧RdAt W f b ((a.take n).foldl (fun x p=>Q6 p x) (s,o)).1∧f[ob]? =some (.cells (ia ((a.take n).foldl (fun x p=>Q6 p x) (s,o)).2).toArray aR (0,0))∧f[i]? =some (.stringIter (aG a) n)∧Upd (fun y=>y=b∨y=ob∨y=i) h f) (fun n=>a.length-n) 0 ⟨bc _,r,K,E,Upd.refl _ _⟩ ?_
 rintro I n _ f ⟨L,G,c,g,D⟩ T;refine⟨rfl,aG a,n,g,?_⟩;by_cases q:n<a.length
 ·obtain⟨p,k⟩:∃p,a[n]? =some p:=⟨_,ax q⟩
  have w:=O p (List.mem_of_getElem? k);refine .inr ⟨p,by rw[NF];simpa using k,Sv w,?_⟩
  have v:=Upd.set (M:=(· =i)) f (b:=i) (.stringIter (aG a) (n+1)) rfl
  have j:(f.setIfInBounds i (.stringIter (aG a) (n+1)))[i]? =some (.stringIter (aG a) (n+1)):=by
   have:=bB g;simp[this]
  show HC PG bZ _ _ _ (f.setIfInBounds i (.stringIter (aG a) (n+1)))
  generalize f.setIfInBounds i (.stringIter (aG a) (n+1))=h3 at v j;have e:a.take (n+1)=a.take n++ [p]:=by rw[List.take_add_one,k];rfl
  have X:Laid h3:=l.upd (D.tr (v.mono fun y d=>.inl (.inr (.inr d)))) fun y d=>by rcases d with rfl|rfl|rfl<;>assumption
  refine T8 w X C (G.upd v (fun e=>t (by have e:b=i:=e;exact e.symm)) fun y d=>.inl (by have d:y=i:=d;rw[d];exact A)) (v.get c fun e=>z (by have e:ob=i:=e;exact e.symm)) H R fun V Q P N=>?_
  refine T (n+1) () V ⟨q,?_,?_,N.get j (by rintro(e|e);exact t e;exact z e),(D.tr (v.mono fun y d=>.inl (.inr (.inr d)))).tr (N.mono fun y d=>.inl (d.imp id .inl))⟩ (by omega)
  ·rw[e,l9];exact Q
  ·rw[e,l9];exact P
 ·have L:n=a.length:=by omega
  rw[L,List.take_length]at G c;exact .inl ⟨by rw[ci];omega,m f G c D⟩
end
end Go.Proofs
namespace Go.Proofs
open Go Go.Lift
theorem Vl{sp k:Nat}{f:FuncId}{o:xp}(ek:o.1=(k:Int))(v:k<26)(s:PR[k]? =some (D3 f)) {h:ad} {K:An→ad→Prop}
  (hc:∀a b,Upd No h a→h.size≤b→b<a.size→HC PG f [.pointer (some ⟨sp,0,none⟩),ON o] Qs (fun e h'=>∃M:Nat→Prop,Upd M a h'∧¬M b∧∀g,Upd (· =b) h' g→K e g) a):
  HC PG gM [.pointer (some ⟨sp,0,none⟩),ON o] Qs K h:=by
 refine Ee (some ⟨sp,0,none⟩) o ?_;unfold wC aj bJ ah aZ aL fx DR O0 Fp UY L7;refine cH fun u b1 k1=>cH fun a b2 j=>af.2 ?_
 have c1:=j.get0 b1;refine⟨_,vc c1 0,?_⟩;rw[ek];refine UX v s fun g d=>⟨rfl,af.2 (xW (o:=o) (d.get0 c1) (HV.mk' ?_))⟩
 have i:=(k1.tr j).tr d;have q:=k1.size;have x:=bB b2;have y:=d.size;refine(hc g u.size i q (by omega)).mono fun e z ⟨M,t,n,p⟩=>?_
 exact Ca (c:=Wd) (e:=e) (t.get (d.get0 b2) n) fun m w=>p m w
section
variable {W:Nat→Prop} {h:ad} {sp vp:Nat} {s:VS} {sm:Option Nat} {last:Int} {pool:Option Addr} {o:xp}
abbrev O9(b:Nat)(sm:Option Nat)(last:Int)(a:Option Addr):List Value:= [.pointer (some ⟨b,0,none⟩),.map sm,.int .i64 last,.pointer a]
theorem BaseOf.is(v:VaultAt W h vp s){id:Int}{B:TD}(a:BaseOf s id B):TreeIs W h s.kind s.x B.1 B.2:=by
 rcases a with⟨_,rfl⟩|⟨_,a⟩
 ·exact v.em
 ·exact(v.ts _ (N6 a)).1
theorem MA(v:VaultAt W h vp s)(b:h[sp]? =some (.cells (O9 vp sm last pool).toArray dB (0,0))) {K:An→ad→Prop} (A:∀h',Upd s.M h h'→VaultAt W h' vp {s with B:=if Ad s.B s.L o.2.1 o.2.2.2.2.2.1 false=0 then pD s.B o.2.1 o.2.2.2.2.2.1 else s.B}→K (Ad s.B s.L o.2.1 o.2.2.2.2.2.1 false,0,0,⟨#[]⟩,false,0,eA,eA,eA,eA,eA) h'):
  HC PG jN [.pointer (some ⟨sp,0,none⟩),ON o] Qs K h:=by
 refine zj (some ⟨sp,0,none⟩) o ?_;unfold ru aj bJ ah aZ aL fx DR Fp iE L7 XR;refine cH fun w b1 k1=>cH fun z b2 n=>?_
 have d:=k1.tr n;have c1:=n.get0 b1;have m:=v.w;have k:=v.g.lt;have hM:∀y,s.M y→y<h.size:=fun y f=>k y (m y f)
 have u:=k1.size;have q:=bB b2;refine⟨_,rfl,_,vc (d.get0 b) 0,_,vc c1 1,_,vc c1 5,O1 (v.pro d) o.2.1 o.2.2.2.2.2.1 fun C t x=>SY fun p a=>?_⟩
 have g:Upd s.M z C:=t.mono fun y f=>.inl (.inr (.inr (.inr (.inl f))))
 refine Ca (c:=Wd) (e:=(Ad s.B s.L o.2.1 o.2.2.2.2.2.1 false,0,0,⟨#[]⟩,false,0,eA,eA,eA,eA,eA)) (a.get0 (g.get b2 fun e=>by have:=hM _ e;omega)) fun j i=>A j ?_ ?_
 ·exact((d.wide.tr g).tr a.wide).trans i fun y f=>.inr (by have f:y=w.size:=f;omega)
 ·exact((x.upd0 a).own hM i u q).dn m
theorem WI(v:VaultAt W h vp s){j:Nat}(e:h[j]? =some (.cells (ia o).toArray aR (0,0))) {B:TD} (i:TreeIs W h s.kind s.x B.1 B.2) {N:Nat} (A:N≤900) (q:Few N B.2) (z:o.2.2.2.1.size≤30) (E:o.2.2.2.2.1.size≤30) {K:Tr×Int→ad→Prop} (t:∀h' f,TreeIs W h' s.kind s.x f (j8 (o.2.2.2.1,o.2.2.2.2.1) B.2)→Upd No h h'→K (f,0) h'):
  HC PG iG [RU B.1,.pointer (some ⟨j,0,none⟩)] [.agg [.int .i64,.int .u64,.int .u64,.int .u64,.ptr,.ptr],.c (.int .i64)] K h:=by
 refine Af B.1 ⟨j,0,none⟩ ?_;unfold si aj fx bP ae ao qc mP xU mL;refine cH fun x b1 k1=>cH fun C b2 n=>?_
 have c1:=n.get0 b1;have p:=n.get0 (k1.get0 e);have d:=k1.tr n;have w:=k1.size;have D:=bB b2;refine⟨_,vc c1 0,_,vc c1 1,_,vc c1 2,_,vc c1 3,_,vc c1 4,_,vc c1 5,_,vc p 3,_,vc p 4,?_⟩;refine Mw (i.pro d) (Pro.lt v.g.lt d) q.up (by have:=q.len;omega) (o.2.2.2.1,o.2.2.2.2.1) (by simp only;omega) (by simp only;omega) fun u f m _ b=>dd (c:=pU Dx) (vs:=pU f) (b.get0 b2) rfl fun k a g=>?_
 refine⟨_,vc a 0,_,vc a 1,_,vc a 2,_,vc a 3,_,vc a 4,_,vc a 5,t k f ?_ ((d.tr b).own g w)⟩;exact(m.updM g fun y e=>.inl (.inr (by have e:y=x.size:=e;omega))).less fun y e=>.inl (.inl e)
theorem TZ{n:ByteArray}{d:TD}{ps:List Int}{id:Int}(h:(mc s.L s.nx ps).1=(id,0)):(AV s n d ps).1=(id,0):=by
 unfold AV;rw[h,if_neg (by simp)]
theorem DF{n:ByteArray}{d:TD}{ps:List Int}:∀y,(AV s n d ps).2.M y↔s.M y:=fun y=>by unfold AV;split<;>rfl
theorem P8(v:VaultAt W h vp s)(b:h[sp]? =some (.cells (O9 vp sm last pool).toArray dB (0,0))) {C:Nat} (cy:h[C]? =some (.cells (ia o).toArray aR (0,0))) (hsp:¬s.M sp) {hd:Int} (L:dK s.B o.2.1=some hd) (hh:hd=0∨hd∈ids s.L) {N:Nat} (hN:N≤900) (hF:∀B,BaseOf s hd B→Few N B.2) (T:o.2.2.2.1.size≤30) (V:o.2.2.2.2.1.size≤30) {id:Int} (J:(mc s.L s.nx (nz [hd])).1=(id,0)) {K:An→ad→Prop}
  (hk:∀h' B p,BaseOf s hd B→Upd s.M h h'→VaultAt W h' vp (AV s o.2.1 (p,j8 (o.2.2.2.1,o.2.2.2.2.1) B.2) (nz [hd])).2→K (0,id,0,⟨#[]⟩,false,0,eA,eA,eA,eA,eA) h'):
  HC PG oB [.pointer (some ⟨sp,0,none⟩),ON o,.func (.func iG) #[] #[.pointer (some ⟨C,0,none⟩)]] Qs K h:=by
 have Q:=v.w;have D:=v.g.lt;have hM:∀y,s.M y→y<h.size:=fun y a=>D y (Q y a)
 refine Bx (some ⟨sp,0,none⟩) o (.func (.func iG) #[] #[.pointer (some ⟨C,0,none⟩)]) ?_;unfold tM aj bJ ah aZ aL fx nv DR Fp nN iE L7 ae ao qc mP UZ DE xU Y0;refine cH fun U b3 Y=>cH fun h4 R O=>?_
 have f:=Y.tr O;have s3:=Y.size;have z4:=bB R;have z3:=bB b3;have P:=O.get0 b3;refine⟨_,rfl,_,vc (f.get0 b) 0,_,vc P 1,Mi (v.upd0 f) o.2.1 ?_⟩;rw[L];refine af.2 ⟨_,rfl,_,vc (f.get0 b) 0,Je (v.upd0 f) hh fun B F G S=>?_⟩
 refine cH fun h6 b6 k6=>dd (c:=pU Dx) (vs:=pU B.1) b6 rfl fun A i u7=>?_
 have s5:=S.size;have g:Upd No h4 A:=(S.tr k6).own u7 s5;have j:=f.tr g;have s7:=g.size;have z7:=bB i;have X:=hF B F;have I:=v.pro j;have Z:Few (N+1) (j8 (o.2.2.2.1,o.2.2.2.2.1) B.2):=X.ins _ T V;refine⟨_,vc i 0,_,vc i 1,_,vc i 2,_,vc i 3,_,vc i 4,_,vc i 5,HV.mk' ?_⟩;refine WI (o:=o) I (j.get0 cy) (F.is I) hN X T V fun h8 p i8 u=>?_
 refine dd (c:=pU B.1) (vs:=pU p) (u.get0 i) rfl fun t n w=>af.2 ?_
 have k:h.size≤G.size∧G.size<A.size:=by omega
 have q:Upd No h t:=(j.tr u).own w k.1;have v9:VaultAt (Pro W h A) t vp s:=(I.upd0 u).own hM w k.1 k.2;have i9:TreeIs (Pro W h A) t s.kind s.x p (j8 (o.2.2.2.1,o.2.2.2.2.1) B.2):=i8.updM w fun y a=>.inl (.inr (by have a:y=G.size:=a;omega))
 have c9:t[h.size]? =some (.cells (ia o).toArray aR (0,0)):=w.oth (u.get0 (g.get0 P)) (by omega);refine⟨_,rfl,_,vc (q.get0 b) 0,_,vc c9 1,_,vc n 0,_,vc n 1,_,vc n 2,_,vc n 3,_,vc n 4,_,vc n 5,?_⟩;refine O2 v9 o.2.1 L (d:=(p,j8 (o.2.2.2.1,o.2.2.2.2.1) B.2)) i9 Z.up Z.fits fun h10 x H=>?_
 rw[TZ J];refine UR fun h11 m=>?_
 have nM:∀y,h.size≤y→¬s.M y:=fun y a e=>by have:=hM y e;omega
 have d9:t[U.size]? =some (.cells (Yx Wd).toArray dS (0,0)):=w.oth (u.get0 (g.get0 R)) (by omega);refine Ca (c:=Wd) (e:=(0,id,0,⟨#[]⟩,false,0,eA,eA,eA,eA,eA)) (m.get0 (x.get d9 (nM _ (by omega)))) fun E z=>hk E B p F ?_ ?_
 ·exact((q.wide.tr x).tr m.wide).trans z fun y a=>.inr (by have a:y=U.size:=a;omega)
 ·exact((H.upd0 m).own (fun y a=>hM y ((DF y).1 a)) z (by omega) (by omega)).dn fun y a=>Q y ((DF y).1 a)
theorem Uh(v:VaultAt W h vp s)(b:h[sp]? =some (.cells (O9 vp sm last pool).toArray dB (0,0))) (g:¬s.M sp) {hd:Int} (t:dK s.B o.2.1=some hd) (G:hd=0∨hd∈ids s.L) {N:Nat} (w:N≤900) (q:∀B,BaseOf s hd B→Few N B.2) (C:o.2.2.2.1.size≤30) (F:o.2.2.2.2.1.size≤30) {id:Int} (j:(mc s.L s.nx (nz [hd])).1=(id,0)) {K:An→ad→Prop}
  (z:∀h' B i,BaseOf s hd B→Upd s.M h h'→VaultAt W h' vp (AV s o.2.1 (i,j8 (o.2.2.2.1,o.2.2.2.2.1) B.2) (nz [hd])).2→K (0,id,0,⟨#[]⟩,false,0,eA,eA,eA,eA,eA) h'):
  HC PG lQ [.pointer (some ⟨sp,0,none⟩),ON o] Qs K h:=by
 have k:=v.w;have f:=v.g.lt;have hM:∀y,s.M y→y<h.size:=fun y a=>f y (k y a)
 refine CP (some ⟨sp,0,none⟩) o ?_;unfold uJ aj bJ ah aZ aL fx DR O0 Fp L7;refine cH fun u b1 k1=>cH fun I b2 p=>?_
 have d:=k1.tr p;have c1:=p.get0 b1;have E:=k1.size;have D:=bB b2;refine xW (o:=o) c1 (P8 (v.pro d) (d.get0 b) c1 g t G w q C F j fun J B i A m x=>?_)
 refine Ca (c:=Wd) (e:=(0,id,0,⟨#[]⟩,false,0,eA,eA,eA,eA,eA)) (m.get b2 fun e=>by have:=hM _ e;omega) fun H n=>z H B i A ((d.wide.tr m).trans n fun y a=>.inr (by have a:y=u.size:=a;omega)) ?_
 exact(x.own (fun y a=>hM y ((DF y).1 a)) n E D).dn fun y a=>k y ((DF y).1 a)
end
end Go.Proofs
namespace Go.Proofs
open Go Go.Lift Go.Conc Go.RowKit
theorem Xi{w:World}{b i:Nat}{c:Array Value}{t:TypeId}{v:Value}(h:w.heap[b]? =some (.cells c t (0,0))) (a:c[i]? =some v):w.cell? ⟨b,i,none⟩=some v:=by
 simp only[World.cell?,h];exact a
theorem mkc(w:World)(n:Nat)(h:n≤4096):(Instr.makeChan 267 (.int .i64 n)).run Tryz.prog w=.ok (.chan (some w.heap.size)) (w.alloc (.chan n #[] false 0 0 false)):=by
 have b:Tryz.prog.underlying 267=some (.chan .both 3):=by kernel_rfl
 have c:(Tryz.prog.info? 3).map (·.bytes)=some 8:=by kernel_rfl
 obtain⟨i,hi,a⟩:=ft.1 c;exact run_makeChan (P:=Tryz.prog) (w:=w) b hi .i64 n (by omega) (by rw[a];omega)
noncomputable abbrev FS:Code:=match Tryz.f141.body with|some (.seq _ (.seq _ (.seq _ (.seq (.seq _ (.block _ (.loop c))) _))))=>c|_=>.skip
noncomputable abbrev K7:Code:=match Tryz.f141.body with|some (.seq _ (.seq _ (.seq _ (.seq _ c))))=>c|_=>.skip
set_option maxRecDepth 100000 in
set_option maxHeartbeats 4000000 in
theorem UQ{n pb t:Nat}{Q:Goroutine→World→Prop}{cs:List Frame}(L:n≤4096)(C:pb≠t):∀(m i:Nat) (v k q g e o d b f p:Value) (ids:List Value) (s r:Nat) (w:World),i+m=n→ids.length=i→w.heap[pb]? =some (.cells #[.chan (some t)] 269 (0,0))→w.heap[t]? =some (.chan n ids.toArray false s r false)→
  (∀(v k q g e o d b f p:Value) (a:List Value) (s' x:Nat) (w':World),a=ids++(eI m).map (fun j=>Value.int .i64 ((i+j:Nat)+1:Int))→(w'=w∨w'=w.setChan t n a.toArray false s' x false)→w'.heap[t]? =some (.chan n a.toArray false s' x false)→LoneTo Tryz.prog Q (G ((base 141).at ⟨#[.int .i64 n,undef,.pointer none,.int .i64 0,.pointer (some ⟨pb,0,none⟩),v,.int .i64 n,.bool false,.bool false,.int .i64 n,.bool false,.bool false,.int .i64 n,.chan (some t),.agg #[.chan (some t)],.pointer (some ⟨pb,0,none⟩),.int .i64 n,.int .i64 n,k,q,g,e,o,d,b,f,p,undef],[]⟩ [.code K7]) cs) w')→
  LoneTo Tryz.prog Q (G ((base 141).at ⟨#[.int .i64 n,undef,.pointer none,.int .i64 0,.pointer (some ⟨pb,0,none⟩),v,.int .i64 n,.bool false,.bool false,.int .i64 n,.bool false,.bool false,.int .i64 n,.chan (some t),.agg #[.chan (some t)],.pointer (some ⟨pb,0,none⟩),.int .i64 n,.int .i64 i,k,q,g,e,o,d,b,f,p,undef],[]⟩ [.code FS,.inLoop FS,.inBlock 0,.code K7]) cs) w:=by
 intro m;induction m with
 |zero=>
  intro i v k q g e o d b f p ids s r w u D z hc B;have u:i=n:=by omega
  subst u;have A:¬((i:Int)<(i:Int)):=by omega
  refine LoneTo.goes (n:=9) ?_;simp only[FS,Tryz.f141];s_c stepG_seq
  s_reg
  s_op
  s_c stepG_region_end
  s_c stepG_seq
  s_cond false
  s_exit
  s_stop
  exact B _ _ _ _ _ _ _ _ _ _ ids s r w (by simp) (.inl rfl) hc
 |succ m ih=>
  intro i v k q g e o d b f p ids s r w u D z hc B;have A:((i:Int)<(n:Int)):=by omega
  have aD:=Xi z (i:=0) rfl;have H:ac .i64 ((i:Int)+1)=((i+1:Nat):Int):=by rw[kD (by omega)];omega
  refine LoneTo.goes (n:=21) ?_;simp only[FS,Tryz.f141];s_c stepG_seq
  s_reg
  s_op
  s_c stepG_region_end
  s_c stepG_seq
  s_cond true
  s_c stepG_skip
  s_c stepG_seq
  s_c stepG_block
  s_c stepG_seq
  s_reg
  s_op
  s_op
  s_c stepG_region_end
  s_reg
  s_op
  s_op
  s_op
  s_op
  s_op
  s_op
  s_stop
  refine LoneTo.step (step_lone_send_room (c:=t) (cap:=n) (buf:=ids.toArray) (s:=s) (r:=r) (tm:=false) (stepG_comm (cases:= #[scase t (.int .i64 ((i:Int)+1)) (.tuple #[])]) (blocking:=true) (shape:=.send) (w':=w) rfl rfl (by decide) (by simp[execOp,scase,Act.eval])) hc (by simp[D];omega)) ?_;rw[Frame.finish_at];walk_nrm
  have E:t<w.heap.size:=(Array.getElem?_eq_some_iff.1 hc).1;refine LoneTo.goes (n:=7) ?_;s_c stepG_region_end
  s_c stepG_inBlock
  s_reg
  s_op
  s_op
  s_c stepG_region_end
  s_c stepG_inLoop
  s_stop
  have F:((i:Int)+1)=((i+1:Nat):Int):=by omega
  rw[F];refine ih (i+1) _ _ _ _ _ _ _ _ _ _ (ids++ [Value.int .i64 ((i+1:Nat):Int)]) (s+1) r (w.setChan t n (ids++ [Value.int .i64 ((i+1:Nat):Int)]).toArray false (s+1) r false) (by omega) (by simp[D]) ?_ (heap_setChan _ _ _ _ _ _ _ _ E) fun v k q g e o d b f p a s' x w' e1 e2 y=>B v k q g e o d b f p a s' x w' ?_ (.inr ?_) y
  ·simp only[World.setChan,Array.getElem?_setIfInBounds]
   rw[if_neg (Ne.symm C)];exact z
  ·rw[e1,List.range_succ_eq_map]
   simp[Nat.add_comm,Nat.add_left_comm,Function.comp_def]
  ·rcases e2 with e2|e2
   ·subst e2
    rw[heap_setChan _ _ _ _ _ _ _ _ E]at y;simp only[bp.injEq,Obj.chan.injEq]at y;obtain⟨_,K,_,J,I,_⟩:=y;rw[K,J,I]
   ·rw[e2];simp[World.setChan]
set_option maxRecDepth 100000 in
set_option maxHeartbeats 4000000 in
theorem UP{n:Nat}{w:World}(v:1≤n)(a:n≤4096):Calls Tryz.prog 141 #[.int .i64 n] w fun e w'=>e=.returned (.tuple #[.pointer (some ⟨w.heap.size+1,0,none⟩),.int .i64 0])∧∃(ids:List Value) (s r:Nat),ids=(eI n).map (fun j=>Value.int .i64 ((0+j:Nat)+1:Int))∧w'.heap[w.heap.size]? =some (.chan n ids.toArray false s r false)∧(w'=(w.alloc (.chan n #[] false 0 0 false)).alloc (.cells #[.chan (some w.heap.size)] 269 (0,0))∨w'=((w.alloc (.chan n #[] false 0 0 false)).alloc (.cells #[.chan (some w.heap.size)] 269 (0,0))).setChan w.heap.size n ids.toArray false s r false):=by
 refine calls_of_loneTo fun cs=>?_
 have e:Frame.enter Tryz.prog 141 #[.int .i64 n] .normal=(base 141).at ⟨#[.int .i64 n,undef,undef,undef,undef,undef,undef,undef,undef,undef,undef,undef,undef,undef,undef,undef,undef,undef,undef,undef,undef,undef,undef,undef,undef,undef,undef,undef],[]⟩ [.code (Tryz.f141.body.getD .skip)]:=by
  simp[Frame.enter,Frame.at,Tryz.func141,base,Tryz.f141]
 rw[e];have m:=fun w=>mkc w n a
 have c1:¬((n:Int)<1):=by omega
 have x:¬(4096<(n:Int)):=by omega
 refine LoneTo.goes (n:=33) ?_;simp only[Tryz.f141,Option.getD_some];s_c stepG_seq
 s_reg
 s_op
 s_op
 s_c stepG_region_end
 s_c stepG_seq
 s_c stepG_seq
 s_reg
 s_op
 s_op
 s_op
 s_op
 s_op
 s_op
 s_c stepG_region_end
 s_cond false
 s_c stepG_skip
 s_c stepG_seq
 s_reg
 s_op
 s_op
 s_op
 s_op
 s_op
 s_c stepG_region_end
 s_c stepG_seq
 s_c stepG_seq
 s_reg
 s_op
 s_op
 s_c stepG_region_end
 s_c stepG_block
 s_c stepG_loop
 s_stop
 have q:((w.alloc (.chan n #[] false 0 0 false)).alloc (.cells #[.chan (some w.heap.size)] 269 (0,0))).heap[w.heap.size+1]? =some (.cells #[.chan (some w.heap.size)] 269 (0,0)):=by
  have:=heap_alloc_new (w.alloc (.chan n #[] false 0 0 false)) (.cells #[.chan (some w.heap.size)] 269 (0,0));simpa using this
 have d:((w.alloc (.chan n #[] false 0 0 false)).alloc (.cells #[.chan (some w.heap.size)] 269 (0,0))).heap[w.heap.size]? =some (.chan n #[] false 0 0 false):=by
  show((w.heap.push (.chan n #[] false 0 0 false)).push (.cells #[.chan (some w.heap.size)] 269 (0,0)))[w.heap.size]? =_
  simp[Array.getElem?_push]
 refine UQ a (by omega) n 0 _ _ _ _ _ _ _ _ _ _ [] 0 0 _ (by omega) rfl q d fun y k u i c b t g f p ids s r w' e1 e2 o=>?_
 refine LoneTo.goes (n:=7) ?_;simp only[K7,Tryz.f141];s_c stepG_seq
 s_reg
 s_op
 s_op
 s_op
 s_c stepG_region_end
 s_c stepG_ret'
 s_stop
 refine LoneTo.done ⟨.returned (.tuple #[.pointer (some ⟨w.heap.size+1,0,none⟩),.int .i64 0]),_,rfl,⟨rfl,ids,s,r,by simpa[eI]using e1,o,e2⟩,rfl,rfl,rfl,rfl,_,Tryz.func141,by simp[results,Tryz.f141,Frame.at]⟩
section
variable {pb tb cb:Nat} {id:Int} {u2 u3 u4 u5 u6 u7 u8 u9 u10 u11 u12 u13 u14 u15 u16 u17 u18 u19 u20 u21 u22:Value} {Q:Goroutine→World→Prop} {cs:List Frame} {kk:List Item} {w:World}
set_option maxRecDepth 100000
end
end Go.Proofs
namespace Go.Proofs
open Go Go.Lift Go.Conc
def PoolAt(h:ad)(pb a cap:Nat)(ids:List Int):Prop:=pb≠a∧h[pb]? =some (.cells #[.chan (some a)] 269 (0,0))∧∃s r,h[a]? =some (.chan cap (ids.map fun i=>Value.int .i64 i).toArray false s r false)
theorem PoolAt.upd{M:Nat→Prop}{h h':ad}{pb c cap:Nat}{ids:List Int}(p:PoolAt h pb c cap ids)(k:Upd M h h')(e:¬M pb)(d:¬M c):PoolAt h' pb c cap ids:=let⟨n,a,s,r,b⟩:=p;⟨n,k.get a e,s,r,k.get b d⟩
theorem PoolAt.upd0{h h':ad}{pb a cap:Nat}{ids:List Int}(p:PoolAt h pb a cap ids)(k:Upd No h h'):PoolAt h' pb a cap ids:=p.upd k id id
theorem PL{n:Nat}(k:1≤n)(g:n≤4096){h:ad}{K:Option Addr×Int→ad→Prop}(d:∀h',Upd No h h'→PoolAt h' (h.size+1) h.size n ((eI n).map fun j=>((j:Nat):Int)+1)→K (some ⟨h.size+1,0,none⟩,0) h'):HC PG EP [.int .i64 n] [.c .ptr,.c (.int .i64)] K h:=by
 refine⟨fun w m=>.inl ⟨Tryz.call141 _ w,(UP k g (w:=w)).mono ?_⟩⟩
 subst m;rintro e w' ⟨rfl,ids,s,r,e1,e2,o⟩;have k1:Upd No w.heap ((w.heap.push (.chan n #[] false 0 0 false)).push (.cells #[.chan (some w.heap.size)] 269 (0,0))):=(Upd.push No w.heap _).tr (Upd.push No _ _);have a:ids=(((eI n).map fun j=>((j:Nat):Int)+1).map fun i=>Value.int .i64 i):=by rw[e1];simp[Function.comp_def]
 have c:((w.heap.push (.chan n #[] false 0 0 false)).push (.cells #[.chan (some w.heap.size)] 269 (0,0)))[w.heap.size+1]? =some (.cells #[.chan (some w.heap.size)] 269 (0,0)):=by
  rw[Array.getElem?_push,Array.size_push,if_pos rfl]
 rcases o with rfl|rfl
 ·refine⟨⟨rfl,rfl,rfl⟩,((some ⟨w.heap.size+1,0,none⟩,0):Option Addr×Int),rfl,d _ k1 ⟨by omega,c,s,r,?_⟩⟩
  rw[←a];exact e2
 ·have b:=Upd.set (M:=(· =w.heap.size)) ((w.heap.push (.chan n #[] false 0 0 false)).push (.cells #[.chan (some w.heap.size)] 269 (0,0))) (.chan n ids.toArray false s r false) rfl
  refine⟨⟨rfl,rfl,rfl⟩,((some ⟨w.heap.size+1,0,none⟩,0):Option Addr×Int),rfl,d _ (k1.trans b fun y f=>.inr (by have f:y=w.heap.size:=f;omega)) ⟨by omega,b.get c (fun e=>by have e:w.heap.size+1=w.heap.size:=e;omega),s,r,?_⟩⟩
  rw[←a];exact e2
end Go.Proofs
namespace Go.Proofs
open Go Go.Lift
section
variable {W:Nat→Prop} {h:ad} {sp vp:Nat} {s:VS} {sm:Option Nat} {last:Int} {pool:Option Addr} {o:xp}
theorem Wx(v:VaultAt W h vp s)(b:h[sp]? =some (.cells (O9 vp sm last pool).toArray dB (0,0))) {f:FuncId} {cap:Array Value} {id:Int} (hi:id=0∨id∈ids s.L) {K:An→ad→Prop}
  (hc:∀B g,BaseOf s id B→Upd No h g→HC PG f ([RU B.1]++cap.toList) Qs (fun e h'=>Upd No g h'∧∀j b,h.size≤b→b<g.size→Upd (· =b) h' j→K e j) g):
  HC PG qk [.pointer (some ⟨sp,0,none⟩),.int .u32 id,.func (.func f) #[] cap] Qs K h:=by
 refine Ed (some ⟨sp,0,none⟩) id (.func (.func f) #[] cap) ?_;unfold wB aj bJ ah aZ aL fx nv Fp iE UY L7 ae ao qc mP DE xU;refine cH fun n b1 k1=>⟨_,rfl,_,vc (k1.get0 b) 0,Je (v.upd0 k1) hi fun B u g m=>?_⟩
 refine cH fun j b3 y=>dd (c:=pU Dx) (vs:=pU B.1) b3 rfl fun k d x=>af.2 ?_
 have t:=m.size;have a:Upd No n k:=(m.tr y).own x t;have i:=k1.tr a;have A:=bB b1;have z:=a.size;refine⟨_,vc d 0,_,vc d 1,_,vc d 2,_,vc d 3,_,vc d 4,_,vc d 5,HV.mk' ?_⟩;refine(hc B k u i).mono fun e C ⟨p,w⟩=>?_
 exact Ca (c:=Wd) (e:=e) (p.get0 (a.get0 b1)) fun o q=>w o h.size (au _) (by omega) q
theorem W6{W:Nat→Prop}{h:ad}{kind:Int}{x:Hs}{t:Tr}{l:List Pr}(i:TreeIs W h kind x t l)(q:∀y,W y→y<h.size)(w:eY l)(B:l.length≤60000){d:Nat}(s:h[d]? =some (.cells (ia o).toArray aR (0,0))) {K:An→ad→Prop} (p:∀h',Upd No h h'→K (0,0,0,(look l o.2.2.2.1).getD ⟨#[]⟩,(look l o.2.2.2.1).isSome,0,eA,eA,eA,eA,eA) h'):
  HC PG nu [RU t,.pointer (some ⟨d,0,none⟩)] Qs K h:=by
 refine Ag t ⟨d,0,none⟩ ?_;unfold sq aj bJ ah aZ aL fx bP L7 ae ao mP xU;refine cH fun E m g=>cH fun D v j=>?_
 have b:=j.get0 m;have a:=g.tr j;have f:=a.size;refine⟨_,vc b 0,_,vc b 1,_,vc b 2,_,vc b 3,_,vc b 4,_,vc b 5,_,vc (a.get0 s) 3,?_⟩;refine Wt (i.upd0 a) (fun y A=>aO (q y A) f) w (by omega) o.2.2.2.1 fun C k=>?_
 have z:=g.size;exact Ca (c:=Wd) (e:=(0,0,0,(look l o.2.2.2.1).getD ⟨#[]⟩,(look l o.2.2.2.1).isSome,0,eA,eA,eA,eA,eA)) (k.get0 v) fun n u=>p n ((a.tr k).own u z)
theorem Ui(v:VaultAt W h vp s)(b:h[sp]? =some (.cells (O9 vp sm last pool).toArray dB (0,0))) (hi:o.2.2.2.2.2.1=0∨o.2.2.2.2.2.1∈ids s.L) (x:∀B,BaseOf s o.2.2.2.2.2.1 B→eY B.2∧B.2.length≤60000) {K:An→ad→Prop}
  (t:∀h' B,BaseOf s o.2.2.2.2.2.1 B→Upd No h h'→K (0,0,0,(look B.2 o.2.2.2.1).getD ⟨#[]⟩,(look B.2 o.2.2.2.1).isSome,0,eA,eA,eA,eA,eA) h'):
  HC PG lR [.pointer (some ⟨sp,0,none⟩),ON o] Qs K h:=by
 refine CQ (some ⟨sp,0,none⟩) o ?_;unfold uK aj bJ ah aZ aL fx DR Fp L7;refine cH fun C b1 k1=>cH fun z b2 n=>?_
 have a:=k1.tr n;have c1:=n.get0 b1;have y:=k1.size;have E:=bB b2;refine⟨_,vc c1 5,Wx (cap:= #[.pointer (some ⟨h.size,0,none⟩)]) (v.upd0 a) (a.get0 b) hi fun B F i k=>?_⟩
 obtain⟨A,p⟩:=x B i;have m:=v.upd0 (a.tr k);refine W6 (i.is m) m.g.lt A p (k.get0 c1) fun D f=>?_
 refine⟨f,fun q H w G u=>?_⟩
 have d:Upd No z q:=(k.tr f).own u w;refine Ca (c:=Wd) (e:=(0,0,0,(look B.2 o.2.2.2.1).getD ⟨#[]⟩,(look B.2 o.2.2.2.1).isSome,0,eA,eA,eA,eA,eA)) (d.get0 b2) fun g j=>t g B i ((a.tr d).own j y)
end
theorem R8{W:Nat→Prop}{kind:Int}(g:kind=0∨kind=1){x:Hs}{h:ad}(A:∀y,W y→y<h.size){K:Option Addr×Int→ad→Prop}
  (z:∀h' sp b gp gm tm bm nm t sm pb cb,VaultAt (fun y=>W y∨VS.M ⟨gp,gm,tm,bm,nm,kind,x,t,[],1,[],[],[]⟩ y) h' b ⟨gp,gm,tm,bm,nm,kind,x,t,[],1,[],[],[]⟩→h'[sp]? =some (.cells (O9 b (some sm) 0 (some ⟨pb,0,none⟩)).toArray dB (0,0))→h'[sm]? =some (.map #[] 0)→PoolAt h' pb cb 16 ((eI 16).map fun j=>((j:Nat):Int)+1)→
   (∀y,VS.M ⟨gp,gm,tm,bm,nm,kind,x,t,[],1,[],[],[]⟩ y→h.size≤y∧y<cb)→h.size≤cb→cb<pb→pb<sm→sm<sp→b<cb→Upd No h h'→K (some ⟨sp,0,none⟩,0) h'):
  HC PG yI [.int .i64 kind,.agg #[.int .u64 x.k0,.int .u64 x.k1,.int .u64 x.mask]] [.c .ptr,.c (.int .i64)] K h:=by
 refine Oa kind (x.k0,x.k1,x.mask) ?_;unfold EW rD ae Ac;refine cH fun C b1 k1=>⟨_,vc b1 0,_,vc b1 1,_,vc b1 2,?_⟩
 have E:=k1.size;refine Wj (W:=W) (x:=x) (fun y e=>aO (A y e) k1.size) g fun o b gp gm tm bm nm t v D zM u=>af.2 ?_
 refine PL (n:=16) (by omega) (by omega) fun c s q=>?_
 have d:=Upd.push No c (.map #[] 0);have i:=mo c (.map #[] 0);refine Qo fun p k=>?_
 have k:p=c.push (.map #[] 0):=k;rw[←k]at d i;have F:=u.size;have w:=bB q.2.1;have B:=bB i;refine cH fun f m a=>z f p.size b gp gm tm bm nm t c.size (o.size+1) o.size (v.upd0 ((s.tr d).tr a)) m (a.get0 i) (q.upd0 (d.tr a)) (fun y e=>⟨by have:=zM y e;omega,v.size e⟩) (by omega) (by omega) w B (bB v.blk) ((((k1.tr u).tr s).tr d).tr a)
end Go.Proofs
namespace Go.Proofs
open Go Go.Lift
def formsL:List (Int×List UInt8×List UInt8):= [(0,[99,114,101,97,116,101],[98,105]),(1,[114,101,109,111,118,101],[98]),(2,[116,97,103],[98,105]),(3,[117,110,116,97,103],[98]),(4,[112,117,116],[98,107,118]),(5,[100,114,111,112],[98,107]),(6,[108,111,97,100],[98,112]),(7,[114,111,108,108,98,97,99,107],[98,105]),(8,[109,101,114,103,101],[98,111,119]),(9,[112,114,117,110,101],[]),(10,[103,101,116],[105,107]),(11,[108,105,115,116],[105]),(12,[100,105,102,102],[105,116]),(13,[112,97,116,99,104],[98,99]),(14,[98,101,103,105,110],[105]),(15,[101,100,105,116],[115,107,118]),(16,[101,114,97,115,101],[115,107]),(17,[108,111,111,107],[115,107]),(18,[102,114,101,101,122,101],[115]),(19,[99,111,109,109,105,116],[115,98]),(20,[99,108,111,115,101],[115]),(21,[110,101,97,114],[105,107,119]),(22,[114,97,110,103,101],[105,114]),(23,[104,101,97,100,115],[]),(24,[116,97,103,115],[]),(25,[118,101,114,115,105,111,110,115],[])]
abbrev Iz(f:Int×List UInt8×List UInt8):List Value:= [.int .i64 f.1,.string (aG f.2.1),.string (aG f.2.2)]
theorem Xa(f:Int×List UInt8×List UInt8):(Iz f).length=3∧0<3:=⟨rfl,by decide⟩
theorem Cx{h:ad}{K:SliceV→ad→Prop}(a:∀h',OwnS Iz 3 ee (fun y=>h.size≤y) h' ⟨some ⟨h.size,0,none⟩,26,26⟩ formsL→Upd No h h'→K ⟨some ⟨h.size,0,none⟩,26,26⟩ h'):HC PG pC [] [.c .slice] K h:=by
 refine LY ?_;unfold Dm;have b1:=bF h (formsL.flatMap Iz) ee;have k1:=Upd.hnew No h (formsL.flatMap Iz) ee;refine bi ?_;show K ⟨some (aH h),26,26⟩ (hnew h (formsL.flatMap Iz) ee)
 generalize hnew h (formsL.flatMap Iz) ee=h1 at b1 k1;exact a h1 ⟨rfl,Xa,au _,.inr ⟨h.size,[],rfl,au _,by rw[cE];exact b1,rfl⟩⟩ k1
abbrev rS(k:Int):xp:=(k,⟨#[]⟩,⟨#[]⟩,⟨#[]⟩,⟨#[]⟩,0,0,0,0,false,⟨#[]⟩,⟨#[]⟩,false,eA,eA)
theorem yj{a b:List UInt8}(h:aG a=aG b):a=b:=by
 have:=congrArg (fun x:ByteArray=>x.data.toList) h
 simpa using this
theorem SB{q w:List UInt8}{ws:List (List UInt8)}(hx:q.length≤1000000)(hw:im 32 q=w::ws)(T:∀x∈ws,x.length≤1000000){k:Nat}{kd:Int}{F:List UInt8}(hf:formsL[k]? =some (kd,w,F)) (hu:∀j f,j<k→formsL[j]? =some f→f.2.1≠w)
  (hp:∀p∈F,GL p) {oF:xp} (hr:F.foldl (fun x p=>Q6 p x) ((ws,true),rS kd)=(([],true),oF)) {h:ad} (l:Laid h) (h4:4≤h.size) {K:xp×Bool→ad→Prop} (hk:∀h',Upd No h h'→K (oF,true) h'):
  HC PG mZ [.string (aG q)] [.agg [.int .i64,.str,.str,.str,.str,.int .u32,.int .u32,.int .i64,.int .i64,.bool,.str,.str,.bool,.slice,.slice],.c .bool] K h:=by
 refine C5 (aG q) ?_;unfold xr bf cU aj bJ ah aZ aL fx nv L8 vW bP TJ TY cJ ez XV bT Wi;have X:k<26:=(List.getElem?_eq_some_iff.1 hf).1;have b1:=bF h (ia (rS 0)) aR;have k1:=Upd.hnew No h (ia (rS 0)) aR;have z1:=eN h (ia (rS 0)) aR;refine bi ?_;show HC PG mV _ _ _ (hnew h (ia (rS 0)) aR)
 generalize hnew h (ia (rS 0)) aR=h1 at b1 k1 z1;refine B5 (by rw[ci];exact hx) fun O d ow k3=>Cx fun h5 of k5=>?_
 rw[show(aG q).data.toList=q from by simp,hw]at ow
 have hsw:=ow.sl (W:=fun y=>O.size≤y) (fun y _ Z=>by omega)
 have S:=ow.cap;have hsf:=of.sl (W:=fun y=>h5.size≤y) (fun y _ Z=>by omega)
 have z3:=k3.size;have z5:=k5.size;have kk:=(k1.tr k3).tr k5;refine LoopP.ghost (fun(n:Nat) (t:Int) G=>t=(n:Int)∧n≤k∧Upd No h5 G) (fun n=>k-n) 0 ⟨rfl,bc _,Upd.refl _ _⟩ ?_
 rintro I n t G ⟨rfl,hn,N⟩ hI;refine aF (fun _=>Join.plain ?_) fun c=>absurd (show((n:Int)<((26:Nat):Int)) by omega) c
 obtain⟨f,z⟩:∃f,formsL[n]? =some f:=⟨_,ax (show n<formsL.length from fQ hn X)⟩
 obtain⟨fk,fn,fp⟩:=f;obtain⟨a,ha,_,L⟩:=(hsf.upd N fun _ h=>h.elim).at z
 have ha:a=⟨O.size,0,none⟩:=(bp.inj ha).symm;have z8:=N.size;rw[Int.toNat_natCast];refine⟨⟨by omega,show((n:Int)<((26:Nat):Int)) by omega⟩,a,by rw[ha],fk,L 0 _ rfl,aG fn,L 1 _ rfl,aG fp,L 2 _ rfl,bi ?_⟩
 have R:=bF G [.int .i64 0,.string ⟨#[]⟩,.string ⟨#[]⟩] ee;have k14:=Upd.hnew No G [.int .i64 0,.string ⟨#[]⟩,.string ⟨#[]⟩] ee;have z14:=eN G [.int .i64 0,.string ⟨#[]⟩,.string ⟨#[]⟩] ee;generalize hnew G [.int .i64 0,.string ⟨#[]⟩,.string ⟨#[]⟩] ee=h14 at R k14 z14;refine dd (c:= [.int .i64 0,.string ⟨#[]⟩,.string ⟨#[]⟩]) (vs:=Iz (fk,fn,fp)) R rfl fun o J u15=>?_
 have B:Upd No G o:=k14.own u15 (au _);have z15:=B.size;have A:=hsw.upd ((k5.tr N).tr B) fun _ h=>h.elim
 obtain⟨aw,haw,_,hwc⟩:=A.at0 (g:=fun w=>Value.string (aG w)) (i:=0) (x:=w) rfl
 have hlw:=hsw.len;simp only[ay]at hlw;refine⟨aG fn,vc J 1,⟨by omega,by omega⟩,aw,haw,aG w,hwc,?_⟩
 rw[di];by_cases he:fn=w
 rotate_left
 ·rw[decide_eq_false (fun e=>he (yj e))]
  have D:n<k:=by
   rcases cC n k with h|h
   ·exact h
   ·have:n=k:=by omega
    subst this;rw[hf]at z;exact absurd (by injection z with e;injection e with _ e;injection e with e _;exact e.symm) he
  refine aA.2 ?_;show I (ac .i64 ((n:Int)+1)) o
  rw[cM D (by omega)];exact hI (n+1) _ _ ⟨rfl,D,N.tr B⟩ (by omega)
 ·subst he
  have D:n=k:=by
   rcases cC n k with h|h
   ·exact absurd rfl (hu n _ h z)
   ·omega
  subst D;rw[hf]at z;injection z with e;injection e with e1 e;injection e with _ e2;subst e1 e2;rw[decide_eq_true rfl];refine af.2 ⟨kd,vc J 0,bi ?_⟩;have Y:=bF o (ia (rS 0)) aR;have k20:=Upd.hnew No o (ia (rS 0)) aR;have z20:=eN o (ia (rS 0)) aR;generalize hnew o (ia (rS 0)) aR=h20 at Y k20 z20;refine dd (c:=ia (rS 0)) (vs:=ia (rS kd)) Y rfl fun s b21 u21=>⟨⟨by omega,by omega⟩,bi ?_⟩
  have C:Upd No o s:=k20.own u21 (au _);have z21:=C.size;have H:=A.upd C fun _ h=>h.elim
  rw[show(1:Int).toNat=1 from rfl]
  have V:=bF s [.slice (aV d.a 1 d.cap 1) (d.len-1) (d.cap-1),.bool true] f8;have u:=Upd.hnew No s [.slice (aV d.a 1 d.cap 1) (d.len-1) (d.cap-1),.bool true] f8;have z22:=eN s [.slice (aV d.a 1 d.cap 1) (d.len-1) (d.cap-1),.bool true] f8;generalize hnew s [.slice (aV d.a 1 d.cap 1) (d.len-1) (d.cap-1),.bool true] f8=h22 at V u z22
  refine⟨aG F,vc ((C.tr u).get0 J) 2,bi ?_⟩;have v:=Upd.push No h22 (.stringIter (aG F) 0);have b24:=mo h22 (.stringIter (aG F) 0);have z24:(h22.push (.stringIter (aG F) 0)).size=h22.size+1:=by simp
  generalize h22.push (.stringIter (aG F) 0)=h24 at v b24 z24;have E:=(H.sub (l:=1) (hi:=d.len) (m:=d.cap) (c:=d.cap-1) (by omega) (by simp only[ay];omega) S).upd (u.tr v) fun _ h=>h.elim
  have e3:((fn::ws).drop 1).take (d.len-1)=ws:=by show ws.take _=_;exact List.take_of_length_le (by omega)
  rw[e3]at E;have r24:RdAt (fun y=>O.size≤y) h24 s.size (ws,true):=⟨⟨⟨aV d.a 1 d.cap 1,d.len-1,d.cap-1⟩,v.get0 V,E,by show d.len-1≤d.cap-1;omega⟩,by show O.size≤s.size;omega,T⟩
  have zb:=u21.size;have kA:Upd No h h24:=((((kk.tr N).tr B).tr C).tr u).tr v;refine Sy (b:=s.size) (ob:=o.size) (i:=h22.size) hp (l.upd0 kA) (by omega) (by omega) (by omega) r24 ((u.tr v).get0 b21) (by omega) (by show O.size≤o.size;omega) (by omega) (by omega) (by show O.size≤h22.size;omega) b24 fun h39 P Q U=>?_
  rw[hr]at P Q;obtain⟨sp,hc,hs,hl⟩:=P.ex;have hsl:sp.len=0:=hs.len;refine Join.plain ⟨_,rfl,true,vc hc 1,aA.2 ⟨_,rfl,sp,vc hc 0,?_⟩⟩;rw[hsl];refine aA.2 (xW Q (dd (c:=ia (rS 0)) (vs:=ia oF) (U.get (((((((k3.tr k5).tr N).tr B).tr C).tr u).tr v).get0 b1) (show ¬(h.size=s.size∨h.size=o.size∨h.size=h22.size) by omega)) rfl fun h55 b55 u55=>xW b55 (hk h55 ?_)))
  exact(kA.trans U fun y Z=>.inr (by omega)).trans u55 fun y Z=>.inr (by have Z:y=h.size:=Z;omega)
end Go.Proofs
namespace Go.Proofs
open Go Go.Lift
structure OpD where
 k:Int
 b:ByteArray
 o:ByteArray
 key:ByteArray
 v:ByteArray
 i:Int
 t:Int
 s:Int
 w:Int
 back:Bool
 fr:ByteArray
 up:ByteArray
 op:Bool
 ps:List Pr
 cs:List Ch
abbrev d0(k:Int):OpD:=⟨k,⟨#[]⟩,⟨#[]⟩,⟨#[]⟩,⟨#[]⟩,0,0,0,0,false,⟨#[]⟩,⟨#[]⟩,false,[],[]⟩
abbrev eE(x:ByteArray):List UInt8:=lI x.data.toList
def ip(v:ByteArray)(is:Bool):List UInt8:=if is then eE v else[46]
def iq(v:ByteArray)(is:Bool):Bool:=is||decide (v.data.toList= [])
abbrev FL:List UInt8:= [117,112]
abbrev ig:List UInt8:= [100,111,119,110]
def Xh(c:Ch):Option (List (List UInt8)):=if iq c.2.1 c.2.2.2.1&&iq c.2.2.1 c.2.2.2.2 then some [eE c.1,ip c.2.1 c.2.2.2.1,ip c.2.2.1 c.2.2.2.2]else none
def ma:List Ch→Option (List (List UInt8))
 | []=>some []
 |c::l=>match Xh c,ma l with
  |some a,some b=>some (a++b)
  |_,_=>none
def mq(l:List Pr):List (List UInt8):=l.flatMap fun p=> [eE p.1,eE p.2]
def cY(n:Int):Bool:=decide (0≤n)&&decide (n≤2147483647)
def BS(p:UInt8)(d:OpD):Option (List (List UInt8)):=
 if p=98 then(if fj d.b then some [d.b.data.toList]else none)
 else if p=111 then(if fj d.o then some [d.o.data.toList]else none)
 else if p=107 then some [eE d.key]
 else if p=118 then some [eE d.v]
 else if p=105 then some [dJ d.i.toNat]
 else if p=116 then some [dJ d.t.toNat]
 else if p=115 then(if cY d.s then some [dJ d.s.toNat]else none)
 else if p=119 then(if cY d.w then some [dJ d.w.toNat]else none)
 else if p=114 then some [eE d.fr,if d.op then[42]else eE d.up,if d.back then ig else FL]
 else if p=112 then some (mq d.ps)
 else ma d.cs
def fy(d:OpD):List UInt8→Option (List (List UInt8))
 | []=>some []
 |p::l=>match BS p d,fy d l with
  |some a,some b=>some (a++b)
  |_,_=>none
def po(c:UInt8):List (List UInt8)→List UInt8
 | []=> []
 | [w]=>w
 |w::u::l=>w++c::po c (u::l)
def lP(d:OpD):Option (List UInt8):=match formsL.find? (fun f=>f.1==d.k)with
 |none=>none
 |some f=>(fy d f.2.2).map fun l=>po 32 (f.2.1::l)
def dG(s:rj):(List UInt8×Bool)×rj:=if s.1.head? =some [46]then(([],false),(bX s).2)else(((bw s).1,true),(bw s).2)
def ga:Nat→rj→List Pr→rj×List Pr
 |0,s,a=>(s,a)
 |n+1,s,a=>if s.1≠[]∧s.2=true then ga n (bw (bw s).2).2 (a++ [(aG (bw s).1,aG (bw (bw s).2).1)])else(s,a)
def A8(s:rj):Ch×rj:=((aG (bw s).1,aG (dG (bw s).2).1.1,aG (dG (dG (bw s).2).2).1.1,(dG (bw s).2).1.2,(dG (dG (bw s).2).2).1.2),(dG (dG (bw s).2).2).2)
def nQ:Nat→rj→List Ch→rj×List Ch
 |0,s,a=>(s,a)
 |n+1,s,a=>if s.1≠[]∧s.2=true then nQ n (A8 s).2 (a++ [(A8 s).1])else(s,a)
def jJ(s:rj):(ByteArray×Bool)×rj:=if s.1.head? =some [42]then((⟨#[]⟩,true),(bX s).2)else((aG (bw s).1,false),(bw s).2)
def vX(s:rj):Bool×rj:=(decide ((bX s).1=ig),((bX s).2.1,(bX s).2.2&&(decide ((bX s).1=FL)||decide ((bX s).1=ig))))
def ue(p:UInt8)(x:rj×OpD):rj×OpD:=
 if p=98 then((gJ x.1).2,{x.2 with b:=aG (gJ x.1).1})
 else if p=111 then((gJ x.1).2,{x.2 with o:=aG (gJ x.1).1})
 else if p=107 then((bw x.1).2,{x.2 with key:=aG (bw x.1).1})
 else if p=118 then((bw x.1).2,{x.2 with v:=aG (bw x.1).1})
 else if p=105 then((eC 4294967295 x.1).2,{x.2 with i:=ac .u32 ((eC 4294967295 x.1).1:Int)})
 else if p=116 then((eC 4294967295 x.1).2,{x.2 with t:=ac .u32 ((eC 4294967295 x.1).1:Int)})
 else if p=115 then((eC 2147483647 x.1).2,{x.2 with s:=ac .i64 ((eC 2147483647 x.1).1:Int)})
 else if p=119 then((eC 2147483647 x.1).2,{x.2 with w:=ac .i64 ((eC 2147483647 x.1).1:Int)})
 else if p=114 then((vX (jJ (bw x.1).2).2).2,{x.2 with fr:=aG (bw x.1).1,up:=(if(jJ (bw x.1).2).1.2 then x.2.up else(jJ (bw x.1).2).1.1),op:=(if(jJ (bw x.1).2).1.2 then true else x.2.op),back:=(vX (jJ (bw x.1).2).2).1})
 else if p=112 then((ga x.1.1.length x.1 x.2.ps).1,{x.2 with ps:=(ga x.1.1.length x.1 x.2.ps).2})
 else((nQ x.1.1.length x.1 x.2.cs).1,{x.2 with cs:=(nQ x.1.1.length x.1 x.2.cs).2})
def fS(a:List UInt8)(x:rj×OpD):rj×OpD:=a.foldl (fun x p=>ue p x) x
def iQ(a:List UInt8):Option OpD:=match im 32 a with
 | []=>none
 |w::ws=>match formsL.find? (fun f=>f.2.1==w)with
  |none=>none
  |some f=>if(fS f.2.2 ((ws,true),d0 f.1)).1.2=true∧(fS f.2.2 ((ws,true),d0 f.1)).1.1= []then some (fS f.2.2 ((ws,true),d0 f.1)).2 else none
theorem nx(w:List UInt8)(ws:List (List UInt8))(ok:Bool):bX (w::ws,ok)=(w,(ws,ok)):=rfl
theorem qP(x:ByteArray)(r:List (List UInt8)):bw (eE x::r,true)=(x.data.toList,(r,true)):=by
 unfold bw;rw[nx];simp only[Jf];rfl
theorem Cc{n m:Nat}(h:n≤m)(hm:m<18446744073709551616)(r:List (List UInt8)):eC m (dJ n::r,true)=(n,(r,true)):=by
 unfold eC;rw[nx];simp only[Cg (fQ h hm)];simp[h]
theorem Jt{x:ByteArray}(h:fj x=true)(r:List (List UInt8)):gJ (x.data.toList::r,true)=(x.data.toList,(r,true)):=by
 unfold gJ;rw[nx];simp only[Jg,h];rfl
theorem JS{l:List UInt8}(h:l≠[]):2≤(xX l).length:=by
 rw[wa];cases l with
 |nil=>exact absurd rfl h
 |cons=>simp;omega
theorem EJ(x:ByteArray):eE x≠[46]:=by
 unfold eE lI;split
 ·decide
 ·rename_i h;intro e;have:=JS h;rw[e]at this;simp at this
theorem Lj(x:ByteArray):eE x≠[42]:=by
 unfold eE lI;split
 ·decide
 ·rename_i h;intro e;have:=JS h;rw[e]at this;simp at this
theorem Jr{v:ByteArray}{is:Bool}(h:iq v is=true)(r:List (List UInt8)):dG (ip v is::r,true)=((v.data.toList,is),(r,true)):=by
 unfold dG ip;cases is with
 |true=>
  have e:¬((eE v::r,true):rj).1.head? =some [46]:=fun e=>EJ v (bp.inj e)
  show(if((eE v::r,true):rj).1.head? =some [46]then _ else(((bw (eE v::r,true)).1,true),(bw (eE v::r,true)).2))=_
  rw[if_neg e,qP]
 |false=>
  have h:v.data.toList= []:=by simpa[iq]using h
  rw[h];rfl
theorem GG:∀(l:List Pr) (n:Nat) (a:List Pr),2*l.length≤n→ga n (mq l,true) a=(([],true),a++l)
 | [],n,a,_=>by
  show ga n ([],true) a=_
  cases n<;>simp[ga]
 |p::l,0,a,h=>by simp at h
 |p::l,n+1,a,h=>by
  show ga (n+1) (eE p.1::eE p.2::mq l,true) a=_
  rw[ga,if_pos ⟨by simp,rfl⟩,qP,qP,GG l n _ (by simp only[ay]at h;omega)];simp[Jg]
theorem Cd:∀l:List Pr,(mq l).length=2*l.length
 | []=>rfl
 |p::l=>by show(eE p.1::eE p.2::mq l).length=_;simp only[ay,Cd l];omega
theorem wq{c:Ch}{l:List Ch}{ws:List (List UInt8)}(h:ma (c::l)=some ws):∃b,iq c.2.1 c.2.2.2.1=true∧iq c.2.2.1 c.2.2.2.2=true∧ma l=some b∧ws=eE c.1::ip c.2.1 c.2.2.2.1::ip c.2.2.1 c.2.2.2.2::b:=by
 unfold ma at h;unfold Xh at h;split at h
 ·rename_i a b e1 e2
  split at e1
  ·rename_i e3
   rw[aJ]at e3;cases e1;cases h;exact⟨b,e3.1,e3.2,e2,rfl⟩
  ·cases e1
 ·cases h
theorem WF{c:Ch}(b:iq c.2.1 c.2.2.2.1=true)(a:iq c.2.2.1 c.2.2.2.2=true)(r:List (List UInt8)):A8 (eE c.1::ip c.2.1 c.2.2.2.1::ip c.2.2.1 c.2.2.2.2::r,true)=(c,(r,true)):=by
 unfold A8;rw[qP,Jr b,Jr a]
theorem MP:∀(l:List Ch) (ws:List (List UInt8)) (n:Nat) (a:List Ch),ma l=some ws→ws.length≤n→nQ n (ws,true) a=(([],true),a++l)
 | [],ws,n,a,h,_=>by
  cases h;cases n<;>simp[nQ]
 |c::l,ws,n,a,h,hn=>by
  obtain⟨b,f,d,e,rfl⟩:=wq h;cases n with
  |zero=>simp at hn
  |succ n=>
   rw[nQ,if_pos ⟨by simp,rfl⟩,WF f d];simp only;rw[MP l b n _ e (by simp only[ay]at hn;omega)];simp
def Yz(d:OpD):Prop:=0≤d.i∧d.i≤4294967295∧0≤d.t∧d.t≤4294967295
abbrev kp:List UInt8:= [98,111,107,118,105,116,115,119,114,112,99]
theorem X4{p:UInt8}(c:p∈kp){d:OpD}{l:List (List UInt8)}(f:Yz d)(h:BS p d=some l)(r:List (List UInt8))(a:(p=112∨p=99)→r= [])(d':OpD):(ue p ((l++r,true),d')).1=(r,true):=by
 simp only[ar,bU,or_false]at c;rcases c with rfl|rfl|rfl|rfl|rfl|rfl|rfl|rfl|rfl|rfl|rfl
 ·have h:(if fj d.b then some [d.b.data.toList]else none)=some l:=h
  split at h
  ·rename_i e;cases h
   show(gJ (d.b.data.toList::r,true)).2=_
   rw[Jt e]
  ·cases h
 ·have h:(if fj d.o then some [d.o.data.toList]else none)=some l:=h
  split at h
  ·rename_i e;cases h
   show(gJ (d.o.data.toList::r,true)).2=_
   rw[Jt e]
  ·cases h
 ·cases h
  show(bw (eE d.key::r,true)).2=_
  rw[qP]
 ·cases h
  show(bw (eE d.v::r,true)).2=_
  rw[qP]
 ·cases h
  show(eC 4294967295 (dJ d.i.toNat::r,true)).2=_
  rw[Cc (by have:=f.2.1;omega) (by omega)]
 ·cases h
  show(eC 4294967295 (dJ d.t.toNat::r,true)).2=_
  rw[Cc (by have:=f.2.2.2;omega) (by omega)]
 ·have h:(if cY d.s then some [dJ d.s.toNat]else none)=some l:=h
  split at h
  ·rename_i e;cases h
   simp only[cY,aJ,decide_eq_true_eq]at e;show(eC 2147483647 (dJ d.s.toNat::r,true)).2=_
   rw[Cc (by omega) (by omega)]
  ·cases h
 ·have h:(if cY d.w then some [dJ d.w.toNat]else none)=some l:=h
  split at h
  ·rename_i e;cases h
   simp only[cY,aJ,decide_eq_true_eq]at e;show(eC 2147483647 (dJ d.w.toNat::r,true)).2=_
   rw[Cc (by omega) (by omega)]
  ·cases h
 ·have h:some [eE d.fr,if d.op then[42]else eE d.up,if d.back then ig else FL]=some l:=h
  cases h;show(vX (jJ (bw (eE d.fr::(if d.op then[42]else eE d.up)::(if d.back then ig else FL)::r,true)).2).2).2=_
  rw[qP];have b:(jJ ((if d.op then[42]else eE d.up)::(if d.back then ig else FL)::r,true)).2=((if d.back then ig else FL)::r,true):=by
   unfold jJ;cases d.op with
   |true=>rfl
   |false=>
    have e:¬((eE d.up::(if d.back then ig else FL)::r,true):rj).1.head? =some [42]:=fun e=>Lj d.up (bp.inj e)
    show(if((eE d.up::(if d.back then ig else FL)::r,true):rj).1.head? =some [42]then _ else((aG (bw (eE d.up::(if d.back then ig else FL)::r,true)).1,false),(bw (eE d.up::(if d.back then ig else FL)::r,true)).2)).2=_
    rw[if_neg e,qP]
  show(vX (jJ ((if d.op then[42]else eE d.up)::(if d.back then ig else FL)::r,true)).2).2=_
  rw[b];cases d.back<;>rfl
 ·have a:=a (.inl rfl)
  subst a;cases h;rw[cE];show(ga (mq d.ps).length (mq d.ps,true) d'.ps).1=_
  rw[GG _ _ _ (by rw[Cd];exact au _)]
 ·have a:=a (.inr rfl)
  subst a;have h:ma d.cs=some l:=h;rw[cE];show(nQ l.length (l,true) d'.cs).1=_
  rw[MP _ _ _ _ h (au _)]
def Nc:List UInt8→Bool
 | []=>true
 |p::l=>([98,111,107,118,105,116,115,119,114].contains p||l.isEmpty)&&Nc l
theorem Rb{d:OpD}(f:Yz d):∀(pt:List UInt8) (l:List (List UInt8)) (d':OpD),(∀q∈pt,q∈kp)→Nc pt=true→fy d pt=some l→(fS pt ((l,true),d')).1=([],true)
 | [],l,d',_,_,h=>by cases h;rfl
 |p::pt,l,d',hk,ho,h=>by
  unfold fy at h;split at h
  ·rename_i a b e1 e2
   cases h;rw[Nc,aJ,Bool.or_eq_true]at ho;have g:=X4 (hk p (aN ..)) f e1 b (fun c=>by
    rcases ho.1 with e|e
    ·rcases c with rfl|rfl<;>exact absurd e (by decide)
    ·have e:pt= []:=by simpa using e
     subst e;cases e2;rfl) d'
   show(fS pt (ue p ((a++b,true),d'))).1=_
   have c:ue p ((a++b,true),d')=((b,true),(ue p ((a++b,true),d')).2):=by rw[←g]
   rw[c];exact Rb f pt b _ (fun q i=>hk q (aI _ i)) ho.2 e2
  ·cases h
theorem D2:∀f∈formsL,Nc f.2.2=true∧(32:UInt8)∉f.2.1∧f.2.1≠[]:=by decide+kernel
theorem wc:∀f∈formsL,(∀q∈f.2.2,q∈kp)∧f.2.2.Nodup:=by decide+kernel
theorem NH:∀f∈formsL,∀g∈formsL,(f.1=g.1→f=g)∧(f.2.1=g.2.1→f=g):=by decide+kernel
theorem Qb{f:Int×List UInt8×List UInt8}(a:f∈formsL){k:Int}(b:f.1=k):formsL.find? (fun f=>f.1==k)=some f:=by
 cases e:formsL.find? (fun f=>f.1==k)with
 |none=>exact absurd (by simpa using b) (jk.1 e f a)
 |some g=>
  have d:=rO e;have c:=gB e;rw[(NH f a g c).1 (b.trans (show g.1=k by simpa using d).symm)]
theorem Ln{f:Int×List UInt8×List UInt8}(a:f∈formsL):formsL.find? (fun g=>g.2.1==f.2.1)=some f:=by
 cases e:formsL.find? (fun g=>g.2.1==f.2.1)with
 |none=>exact absurd (by simp) (jk.1 e f a)
 |some g=>
  have c:=rO e;have b:=gB e;rw[(NH f a g b).2 (show g.2.1=f.2.1 by simpa using c).symm]
theorem NX{c:UInt8}:∀(w:List UInt8) (l:List (List UInt8)),(∀x∈w::l,c∉x)→im c (po c (w::l))=w::l
 |w,[],h=>wn (h w (aN ..))
 |w,u::l,h=>by
  show im c (w++c::po c (u::l))=_
  rw[yZ (h w (aN ..)),NX u l fun x hx=>h x (aI _ hx)]
theorem Nv(c:UInt8):∀l:List UInt8,po c (im c l)=l
 | []=>rfl
 |a::l=>by
  have b:=Nv c l;unfold im;cases e:im c l with
  |nil=>exact absurd e (F4 c l)
  |cons w ws=>
   rw[e]at b;split
   ·rename_i ea
    show[]++c::po c (w::ws)=_
    rw[b,ea];rfl
   ·cases ws with
    |nil=>show a::w=_;rw[←b];rfl
    |cons u ws=>
     show(a::w)++c::po c (u::ws)=_
     rw[←b];rfl
theorem Rp(n:Nat)(h:n<16):sE n≠32:=by
 have:∀n:Fin 16,sE n.val≠32:=by decide+kernel
 exact this ⟨n,h⟩
theorem wZ(x:ByteArray):(32:UInt8)∉eE x:=by
 unfold eE lI;split
 ·decide
 ·unfold xX
  rw[List.mem_flatMap];rintro⟨b,_,a⟩;have:=b.toNat_lt;simp only[ar,bU,or_false]at a;rcases a with e|e
  ·exact Rp _ (by omega) e.symm
  ·exact Rp _ (by omega) e.symm
theorem F3(n:Nat):(32:UInt8)∉dJ n:=fun h=>by
 have:=kw.1 (CC n).1 _ h;exact absurd this (by decide)
theorem Ri{x:ByteArray}(h:fj x=true):(32:UInt8)∉x.data.toList:=fun hm=>by
 unfold fj at h;rw[aJ]at h;exact absurd (kw.1 h.2 _ hm) (by decide)
theorem MC(v:ByteArray)(is:Bool):(32:UInt8)∉ip v is:=by
 unfold ip;split
 ·exact wZ v
 ·decide
theorem RA:∀(l:List Ch) (ws:List (List UInt8)),ma l=some ws→∀x∈ws,(32:UInt8)∉x
 | [],ws,h,x,hx=>by cases h;cases hx
 |c::l,ws,h,x,hx=>by
  obtain⟨b,_,_,a,rfl⟩:=wq h;simp only[ar]at hx;rcases hx with rfl|rfl|rfl|hx
  ·exact wZ _
  ·exact MC _ _
  ·exact MC _ _
  ·exact RA l b a x hx
theorem XL{p:UInt8}{d:OpD}{l:List (List UInt8)}(h:BS p d=some l):∀x∈l,(32:UInt8)∉x:=by
 unfold BS at h;have one:∀{y:List UInt8},(32:UInt8)∉y→∀x∈[y],(32:UInt8)∉x:=fun b x hx=>by rw[List.mem_singleton.1 hx];exact b
 split at h
 ·split at h
  ·rename_i e;cases h;exact one (Ri e)
  ·cases h
 split at h
 ·split at h
  ·rename_i e;cases h;exact one (Ri e)
  ·cases h
 split at h
 ·cases h;exact one (wZ _)
 split at h
 ·cases h;exact one (wZ _)
 split at h
 ·cases h;exact one (F3 _)
 split at h
 ·cases h;exact one (F3 _)
 split at h
 ·split at h
  ·cases h;exact one (F3 _)
  ·cases h
 split at h
 ·split at h
  ·cases h;exact one (F3 _)
  ·cases h
 split at h
 ·cases h
  intro x hx;simp only[ar,bU,or_false]at hx;rcases hx with rfl|rfl|rfl
  ·exact wZ _
  ·split
   ·decide
   ·exact wZ _
  ·split<;>decide
 split at h
 ·cases h
  intro x hx;unfold mq at hx;rw[List.mem_flatMap]at hx;obtain⟨p,_,a⟩:=hx;simp only[ar,bU,or_false]at a;rcases a with rfl|rfl<;>exact wZ _
 ·exact RA _ _ h
theorem QZ{d:OpD}:∀(pt:List UInt8) (l:List (List UInt8)),fy d pt=some l→∀x∈l,(32:UInt8)∉x
 | [],l,h,x,hx=>by cases h;cases hx
 |p::pt,l,h,x,hx=>by
  unfold fy at h;split at h
  ·rename_i a b e1 e2
   cases h;rcases List.mem_append.1 hx with hx|hx
   ·exact XL e1 x hx
   ·exact QZ pt b e2 x hx
  ·cases h
theorem PH{d:OpD}(g:Yz d){a:List UInt8}(h:lP d=some a):(iQ a).isSome=true:=by
 unfold lP at h;cases e:formsL.find? (fun f=>f.1==d.k)with
 |none=>rw[e]at h;cases h
 |some f=>
  rw[e]at h;have b:=gB e;obtain⟨l,c,rfl⟩:=ft.1 h;obtain⟨i,j,_⟩:=D2 f b;unfold iQ;rw[NX f.2.1 l fun x hx=>by
   rcases ar.1 hx with rfl|hx
   ·exact j
   ·exact QZ _ _ c x hx]
  simp only[Ln b];rw[Rb g _ _ _ (wc f b).1 i c];simp
end Go.Proofs
