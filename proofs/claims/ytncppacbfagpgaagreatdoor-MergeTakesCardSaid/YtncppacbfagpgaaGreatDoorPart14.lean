/- A part of the proof that the named laws of this program answer true, whatever the input. -/
import Derived.Test.YtncppacbfagpgaaGreatDoorPart13
open Int renaming tmod→kI
open List renaming length_append→ac
open Nat renaming le_refl→aj,zero_le→aS
namespace Go.Proofs
open Go Go.Lift
theorem FH{h:ad}{b:Nat}{t:TypeId}{A c B vs:List Value}{a:Addr}(d:h[b]? =some (.cells (A++c++B).toArray t (0,0))) (m:a=⟨b,A.length,none⟩) (f:vs.length=c.length) {k:ad→Prop}
  (i:∀h',h'[b]? =some (.cells (A++vs++B).toArray t (0,0))→Upd (· =b) h h'→k h'):rE h (some a) 0 vs∧At (fS h a 0 vs) k:=by
 subst m;have g:(A++c++B).length=A.length+vs.length+B.length:=by rw[ac,ac,f]
 have e:=kX vs h 0 A.length (A++c++B) d (by omega);refine⟨.inr ⟨_,rfl,fun j n=>by rw[cd];exact ip d (by rw[List.size_toArray];omega)⟩,bG ?_⟩
 rw[e];refine i _ ?_ (Upd.set h _ rfl);rw[jE d];congr 3
 rw[Nat.add_zero,f,←ac,List.drop_left,List.append_assoc A c B,List.take_left]
def w3(t0 t1 t2:Tr)(r0 r1 r2:Rt):List Value:=kg t0++(kg t1++(kg t2++(ou r0++(ou r1++ou r2))))
abbrev T33:=Int×Int×Int×Int×(Option Addr)×(Option Addr)×Int×Int×Int×Int×(Option Addr)×(Option Addr)×Int×Int×Int×Int×(Option Addr)×(Option Addr)×Int×Int×Int×Int×SliceV×Int×Int×Int×Int×SliceV×Int×Int×Int×Int×SliceV
abbrev K33:List Kind:= [.agg ((.int .i64)::(.int .u64)::(.int .u64)::(.int .u64):: .ptr:: .ptr::(.int .i64)::(.int .u64)::(.int .u64)::(.int .u64):: .ptr:: .ptr::(.int .i64)::(.int .u64)::(.int .u64)::(.int .u64):: .ptr:: .ptr::(.int .i64)::(.int .u64)::(.int .u64)::(.int .u64):: .slice::(.int .i64)::(.int .u64)::(.int .u64)::(.int .u64):: .slice::(.int .i64)::(.int .u64)::(.int .u64)::(.int .u64):: .slice:: [])]
def adz(t0 t1 t2:Tr)(r0 r1 r2:Rt):T33:=(t0.1,t0.2.1,t0.2.2.1,t0.2.2.2.1,t0.2.2.2.2.1,t0.2.2.2.2.2,t1.1,t1.2.1,t1.2.2.1,t1.2.2.2.1,t1.2.2.2.2.1,t1.2.2.2.2.2,t2.1,t2.2.1,t2.2.2.1,t2.2.2.2.1,t2.2.2.2.2.1,t2.2.2.2.2.2,r0.1,r0.2.1,r0.2.2.1,r0.2.2.2.1,r0.2.2.2.2,r1.1,r1.2.1,r1.2.2.1,r1.2.2.2.1,r1.2.2.2.2,r2.1,r2.2.1,r2.2.2.1,r2.2.2.2.1,r2.2.2.2.2)
abbrev DE(h:ad)(b:Nat)(t0 t1 t2:Tr)(r0 r1 r2:Rt):Prop:=h[b]? =some (.cells (w3 t0 t1 t2 r0 r1 r2).toArray ut (0,0))
theorem acv{h:ad}{b:Nat}{t0 t1 t2 u:Tr}{r0 r1 r2:Rt}{a:Addr}(i:DE h b t0 t1 t2 r0 r1 r2)(j:a=⟨b,0,none⟩){k:ad→Prop}(g:∀h',DE h' b u t1 t2 r0 r1 r2→Upd (· =b) h h'→k h'):rE h (some a) 0 (kg u)∧At (fS h a 0 (kg u)) k:=
 FH (A:= []) (c:=kg t0) (B:=kg t1++(kg t2++(ou r0++(ou r1++ou r2)))) (vs:=kg u) i j rfl fun f d e=>g f d e
theorem aaS{h:ad}{b:Nat}{t0 t1 t2 u:Tr}{r0 r1 r2:Rt}{a:Addr}(i:DE h b t0 t1 t2 r0 r1 r2)(j:a=⟨b,6,none⟩){k:ad→Prop}(g:∀h',DE h' b t0 u t2 r0 r1 r2→Upd (· =b) h h'→k h'):rE h (some a) 0 (kg u)∧At (fS h a 0 (kg u)) k:=
 FH (A:=kg t0) (c:=kg t1) (B:=kg t2++(ou r0++(ou r1++ou r2))) (vs:=kg u) i j rfl fun f d e=>g f d e
theorem aaR{h:ad}{b:Nat}{t0 t1 t2 u:Tr}{r0 r1 r2:Rt}{a:Addr}(i:DE h b t0 t1 t2 r0 r1 r2)(j:a=⟨b,12,none⟩){k:ad→Prop}(g:∀h',DE h' b t0 t1 u r0 r1 r2→Upd (· =b) h h'→k h'):rE h (some a) 0 (kg u)∧At (fS h a 0 (kg u)) k:=
 FH (A:=kg t0++kg t1) (c:=kg t2) (B:=ou r0++(ou r1++ou r2)) (vs:=kg u) i j rfl fun f d e=>g f d e
theorem acu{h:ad}{b:Nat}{t0 t1 t2:Tr}{r0 r1 r2 u:Rt}{a:Addr}(i:DE h b t0 t1 t2 r0 r1 r2)(j:a=⟨b,18,none⟩){k:ad→Prop}(g:∀h',DE h' b t0 t1 t2 u r1 r2→Upd (· =b) h h'→k h'):rE h (some a) 0 (ou u)∧At (fS h a 0 (ou u)) k:=
 FH (A:=kg t0++kg t1++kg t2) (c:=ou r0) (B:=ou r1++ou r2) (vs:=ou u) i j rfl fun f d e=>g f d e
theorem aaQ{h:ad}{b:Nat}{t0 t1 t2:Tr}{r0 r1 r2 u:Rt}{a:Addr}(i:DE h b t0 t1 t2 r0 r1 r2)(j:a=⟨b,23,none⟩){k:ad→Prop}(g:∀h',DE h' b t0 t1 t2 r0 u r2→Upd (· =b) h h'→k h'):rE h (some a) 0 (ou u)∧At (fS h a 0 (ou u)) k:=
 FH (A:=kg t0++kg t1++kg t2++ou r0) (c:=ou r1) (B:=ou r2) (vs:=ou u) i j rfl fun f d e=>g f d e
theorem aaP{h:ad}{b:Nat}{t0 t1 t2:Tr}{r0 r1 r2 u:Rt}{a:Addr}(i:DE h b t0 t1 t2 r0 r1 r2)(j:a=⟨b,28,none⟩){k:ad→Prop}(g:∀h',DE h' b t0 t1 t2 r0 r1 u→Upd (· =b) h h'→k h'):rE h (some a) 0 (ou u)∧At (fS h a 0 (ou u)) k:=
 FH (A:=kg t0++kg t1++kg t2++ou r0++ou r1) (c:=ou r2) (B:= []) (vs:=ou u) i j rfl fun f d e=>g f d e
abbrev adc:List Value:=w3 BM BM BM IT IT IT
set_option maxHeartbeats 2000000 in
theorem V9{W:Nat→Prop}{x:Hs}{h:ad}{k:Int}{s sm sn sg sk:SliceV}{l m n:List Pr}{g gk:List ByteArray}(hk0:0≤k)(hk1:k≤255)(hs:Sl ey 2 W h s l)(hm:Sl ey 2 W h sm m)(hn:Sl ey 2 W h sn n)(hg:Sl abq 1 W h sg g)(hgk:Sl abq 1 W h sk gk)(hW:∀y,W y→y<h.size)(hl:l.length≤9223372036854775807)(hml:m.length≤9223372036854775807)(hnl:n.length≤9223372036854775807)(hgl:g.length≤9223372036854775807)(hkl:gk.length≤9223372036854775807)(free:Bool){K:T33→ad→Prop}
  (hk:∀h' t0 t1 t2 r0 r1 r2,TreeIs W h' (IntKind.wrap .i64 (kI k 2)) x t0 (gH [] l)→TreeIs W h' (IntKind.wrap .i64 (kI k 2)) x t1 (qk (gH (if free then[]else gH [] l) m) g)→TreeIs W h' (IntKind.wrap .i64 (kI k 2)) x t2 (qk (gH (if free then[]else gH [] l) n) gk)→
   RefIs W h' (IntKind.wrap .i64 (kI k 2)) x r0 (gH [] l)→RefIs W h' (IntKind.wrap .i64 (kI k 2)) x r1 (qk (gH (if free then[]else gH [] l) m) g)→RefIs W h' (IntKind.wrap .i64 (kI k 2)) x r2 (qk (gH (if free then[]else gH [] l) n) gk)→Upd No h h'→K (adz t0 t1 t2 r0 r1 r2) h'):
  HC PG Dk [.int .u8 k,.agg #[.int .u64 x.k0,.int .u64 x.k1,.int .u64 x.mask],.slice s.a s.len s.cap,.slice sm.a sm.len sm.cap,.slice sn.a sn.len sn.cap,.slice sg.a sg.len sg.cap,.slice sk.a sk.len sk.cap,.bool free] K33 K h:=by
 refine TN k (x.k0,x.k1,x.mask) s sm sn sg sk free ?_;unfold KM bT pW aI ae cg lX aB bK bV df AA wN th zP o9 Bq KW BQ ga;refine aP fun h1 b1 k1=>aP fun h2 b2 k2=>aP fun X b3 k3=>?_
 have z1:=aY b1;have z2:=aY b2;have z3:=aY b3;have s1:h.size≤h1.size:=k1.size;have s2:h1.size≤h2.size:=k2.size;have s3:=k3.size;have k03:=(k1.tr k2).tr k3;have c1:=k3.get0 (k2.get0 b1);refine⟨_,vc c1 0,_,vc c1 1,_,vc c1 2,?_⟩;refine Tj (W:=Pro W h X) (x:=x) hk0 hk1 (Pro.lt hW k03) fun h8 t r i8 j8 k8=>aP fun h9 b9 k9=>aP fun h10 b10 k10=>?_
 generalize IntKind.wrap .i64 (kI k 2)=kind at hk i8 j8;have s8:=k8.size;have z9:=aY b9;have z10:=aY b10;have s9:=k9.size;have aaT:=k10.size;refine cF (c:=kg BM) (vs:=kg t) (k10.get0 b9) rfl fun h11 b11 S=>?_
 refine cF (c:=ou IT) (vs:=ou r) (S.oth b10 (by omega)) rfl fun h12 R hu12=>?_
 have s11:=S.size;have s12:=hu12.size;have J:=hu12.oth b11 (by omega);have H:Upd No h8 h12:=((k9.tr k10).own S (aj _)).own hu12 (by omega);have k012:Upd No h h12:=(k03.tr k8).tr H;have hW':∀{h':ad},X.size≤h'.size→∀y,Pro W h X y→y<h'.size:=fun k y hy=>Nat.lt_of_lt_of_le (Pro.lt hW k03 y hy) k
 have e:∀{h':ad} (y:Nat),y=h2.size→Pro W h X y∨h'.size≤y:=fun y hy=>.inl (.inr (by omega))
 refine⟨_,vc J 0,_,vc J 1,_,vc J 2,_,vc J 3,_,vc J 4,_,vc J 5,_,vc R 0,_,vc R 1,_,vc R 2,_,vc R 3,r.2.2.2.2,vc R 4,?_⟩;have i12:=i8.upd0 H;have j12:=j8.upd0 H;refine vU (W:=Pro W h X) (g:= []) (sg:=⟨none,0,0⟩) i12 j12 few_nil few_nil (by omega) ((hs.less Pro.hm).upd k012 fun _ h=>h.elim) (Sl.nil fun _=>⟨rfl,by omega⟩) (hW' (by omega)) hl (aS _) fun h25 t0 r0 i25 j25 I=>?_
 have s25:=I.size;have fL0:Few 20 (qk (gH [] l) []):=AU (na few_nil l) [];refine⟨by decide,?_⟩;have w25:DE h25 h2.size BM BM BM IT IT IT:=I.get0 (H.get0 (k8.get0 b3));have z25:DE h25 h1.size BM BM BM IT IT IT:=I.get0 (H.get0 (k8.get0 (k3.get0 b2)));refine acv (u:=t0) w25 rfl fun h26 w26a hu26=>⟨by decide,?_⟩
 refine acu (u:=r0) w26a rfl fun O q hu27=>?_
 have C:Upd (· =h2.size) h25 O:=hu26.tr hu27
 have s27:=C.size;have A:Upd No h O:=(k012.tr I).own C (by omega);have d9:=C.oth (I.get0 J) (by omega);have M:=C.oth (I.get0 R) (by omega);have z27:=C.oth z25 (by omega);have i26:=i25.updM C e;have j26:=j25.updM C e;have i25b:=(i12.upd0 I).updM C e;have j25b:=(j12.upd0 I).updM C e;have Q:∀{v E:ad} {t:Tr} {L:List Pr},TreeIs (Pro W h X) v kind x t L→Upd (· =h1.size) v E→TreeIs W E kind x t L:=fun i hu=>(i.updM hu fun y hy=>.inl (.inr (by have hy:y=h1.size:=hy;omega))).less Pro.sub
 have B:∀{v E:ad} {t:Rt} {L:List Pr},RefIs (Pro W h X) v kind x t L→Upd (· =h1.size) v E→RefIs W E kind x t L:=fun i hu=>(i.updM hu fun y hy=>.inl (.inr (by have hy:y=h1.size:=hy;omega))).less Pro.sub
 cases free with
 |true=>
  refine aw.2 ?_;refine⟨_,vc d9 0,_,vc d9 1,_,vc d9 2,_,vc d9 3,_,vc d9 4,_,vc d9 5,_,vc M 0,_,vc M 1,_,vc M 2,_,vc M 3,r.2.2.2.2,vc M 4,?_⟩;refine vU (W:=Pro W h X) i25b j25b few_nil few_nil (by omega) (((hm.less Pro.hm).upd A fun _ h=>h.elim)) (((hg.less Pro.hm).upd A fun _ h=>h.elim)) (hW' (by omega)) hml hgl fun T t1 r1 i40 j40 z=>?_
  have s40:=z.size;refine⟨by decide,?_⟩;refine aaS (u:=t1) (z.get0 q) rfl fun h41 V Z=>⟨by decide,?_⟩
  refine aaQ (u:=r1) V rfl fun N p hu42=>?_
  have F:Upd (· =h2.size) T N:=Z.tr hu42
  have f:Upd (· =h2.size) O N:=z.wide.tr F
  have s42:=F.size;have w:Upd No h N:=(A.tr z).own F (by omega);have e9:=f.oth d9 (by omega);have P:=f.oth M (by omega);refine⟨_,vc e9 0,_,vc e9 1,_,vc e9 2,_,vc e9 3,_,vc e9 4,_,vc e9 5,_,vc P 0,_,vc P 1,_,vc P 2,_,vc P 3,r.2.2.2.2,vc P 4,?_⟩;refine vU (W:=Pro W h X) (i25b.updM f e) (j25b.updM f e) few_nil few_nil (by omega) (((hn.less Pro.hm).upd w fun _ h=>h.elim)) (((hgk.less Pro.hm).upd w fun _ h=>h.elim)) (hW' (by omega)) hnl hkl fun h55 t2 r2 i55 j55 G=>?_
  have s55:=G.size;refine⟨by decide,?_⟩;refine aaR (u:=t2) (G.get0 p) rfl fun h56 w56 Y=>⟨by decide,?_⟩
  refine aaP (u:=r2) w56 rfl fun v b U=>?_
  have D:Upd (· =h2.size) h55 v:=Y.tr U
  have j:Upd (· =h2.size) T v:=(F.tr G.wide).tr D
  have o:Upd (· =h2.size) O v:=z.wide.tr j
  refine⟨_,vc b 0,_,vc b 1,_,vc b 2,_,vc b 3,_,vc b 4,_,vc b 5,_,vc b 6,_,vc b 7,_,vc b 8,_,vc b 9,_,vc b 10,_,vc b 11,_,vc b 12,_,vc b 13,_,vc b 14,_,vc b 15,_,vc b 16,_,vc b 17,_,vc b 18,_,vc b 19,_,vc b 20,_,vc b 21,r0.2.2.2.2,vc b 22,_,vc b 23,_,vc b 24,_,vc b 25,_,vc b 26,r1.2.2.2.2,vc b 27,_,vc b 28,_,vc b 29,_,vc b 30,_,vc b 31,r2.2.2.2.2,vc b 32,?_⟩
  refine cF (c:=adc) (vs:=w3 t0 t1 t2 r0 r1 r2) (o.oth z27 (by omega)) rfl fun E a d=>?_
  refine⟨_,vc a 0,_,vc a 1,_,vc a 2,_,vc a 3,_,vc a 4,_,vc a 5,_,vc a 6,_,vc a 7,_,vc a 8,_,vc a 9,_,vc a 10,_,vc a 11,_,vc a 12,_,vc a 13,_,vc a 14,_,vc a 15,_,vc a 16,_,vc a 17,_,vc a 18,_,vc a 19,_,vc a 20,_,vc a 21,r0.2.2.2.2,vc a 22,_,vc a 23,_,vc a 24,_,vc a 25,_,vc a 26,r1.2.2.2.2,vc a 27,_,vc a 28,_,vc a 29,_,vc a 30,_,vc a 31,r2.2.2.2.2,vc a 32,?_⟩
  exact hk E t0 t1 t2 r0 r1 r2 (Q (i26.updM o e) d) (Q ((i40.updM j e)) d) (Q ((i55.updM D e)) d) (B (j26.updM o e) d) (B (j40.updM j e) d) (B (j55.updM D e) d) (((w.tr G).own D (by omega)).own d (by omega))
 |false=>
  refine ag.2 ?_;refine⟨by decide,_,lJ q 0 0,_,lJ q 0 1,_,lJ q 0 2,_,lJ q 0 3,_,lJ q 0 4,_,lJ q 0 5,by decide,_,lJ q 18 0,_,lJ q 18 1,_,lJ q 18 2,_,lJ q 18 3,r0.2.2.2.2,lJ q 18 4,?_⟩
  refine vU (W:=Pro W h X) i26 j26 fL0 fL0 (by omega) (((hm.less Pro.hm).upd A fun _ h=>h.elim)) (((hg.less Pro.hm).upd A fun _ h=>h.elim)) (hW' (by omega)) hml hgl fun T t1 r1 i40 j40 z=>?_
  have s40:=z.size;refine⟨by decide,?_⟩;refine aaS (u:=t1) (z.get0 q) rfl fun h41 V Z=>⟨by decide,?_⟩
  refine aaQ (u:=r1) V rfl fun N p hu42=>?_
  have F:Upd (· =h2.size) T N:=Z.tr hu42
  have f:Upd (· =h2.size) O N:=z.wide.tr F
  have s42:=F.size;have w:Upd No h N:=(A.tr z).own F (by omega);have e9:=f.oth d9 (by omega);have P:=f.oth M (by omega);refine⟨by decide,_,lJ p 0 0,_,lJ p 0 1,_,lJ p 0 2,_,lJ p 0 3,_,lJ p 0 4,_,lJ p 0 5,by decide,_,lJ p 18 0,_,lJ p 18 1,_,lJ p 18 2,_,lJ p 18 3,r0.2.2.2.2,lJ p 18 4,?_⟩
  refine vU (W:=Pro W h X) (i26.updM f e) (j26.updM f e) fL0 fL0 (by omega) (((hn.less Pro.hm).upd w fun _ h=>h.elim)) (((hgk.less Pro.hm).upd w fun _ h=>h.elim)) (hW' (by omega)) hnl hkl fun h55 t2 r2 i55 j55 G=>?_
  have s55:=G.size;refine⟨by decide,?_⟩;refine aaR (u:=t2) (G.get0 p) rfl fun h56 w56 Y=>⟨by decide,?_⟩
  refine aaP (u:=r2) w56 rfl fun v b U=>?_
  have D:Upd (· =h2.size) h55 v:=Y.tr U
  have j:Upd (· =h2.size) T v:=(F.tr G.wide).tr D
  have o:Upd (· =h2.size) O v:=z.wide.tr j
  refine⟨_,vc b 0,_,vc b 1,_,vc b 2,_,vc b 3,_,vc b 4,_,vc b 5,_,vc b 6,_,vc b 7,_,vc b 8,_,vc b 9,_,vc b 10,_,vc b 11,_,vc b 12,_,vc b 13,_,vc b 14,_,vc b 15,_,vc b 16,_,vc b 17,_,vc b 18,_,vc b 19,_,vc b 20,_,vc b 21,r0.2.2.2.2,vc b 22,_,vc b 23,_,vc b 24,_,vc b 25,_,vc b 26,r1.2.2.2.2,vc b 27,_,vc b 28,_,vc b 29,_,vc b 30,_,vc b 31,r2.2.2.2.2,vc b 32,?_⟩
  refine cF (c:=adc) (vs:=w3 t0 t1 t2 r0 r1 r2) (o.oth z27 (by omega)) rfl fun E a d=>?_
  refine⟨_,vc a 0,_,vc a 1,_,vc a 2,_,vc a 3,_,vc a 4,_,vc a 5,_,vc a 6,_,vc a 7,_,vc a 8,_,vc a 9,_,vc a 10,_,vc a 11,_,vc a 12,_,vc a 13,_,vc a 14,_,vc a 15,_,vc a 16,_,vc a 17,_,vc a 18,_,vc a 19,_,vc a 20,_,vc a 21,r0.2.2.2.2,vc a 22,_,vc a 23,_,vc a 24,_,vc a 25,_,vc a 26,r1.2.2.2.2,vc a 27,_,vc a 28,_,vc a 29,_,vc a 30,_,vc a 31,r2.2.2.2.2,vc a 32,?_⟩
  exact hk E t0 t1 t2 r0 r1 r2 (Q (i26.updM o e) d) (Q ((i40.updM j e)) d) (Q ((i55.updM D e)) d) (B (j26.updM o e) d) (B (j40.updM j e) d) (B (j55.updM D e) d) (((w.tr G).own D (by omega)).own d (by omega))
end Go.Proofs
namespace Go.Proofs
open Go Go.Lift
theorem oO{h:ad}{b:Nat}{c:Array Value}{t:TypeId}(a:h[b]? =some (.cells c t (0,0))) (i j k:Nat):aJ h (adr (adr (adr ⟨b,0,none⟩ i) j) k)=c[i+j+k]?:=by rw[cd,cd,cd,Nat.zero_add];exact bm a
theorem abH{h:ad}{t0 t1 t2:Tr}{r0 r1 r2:Rt}{k:ad→Prop}(d:∀h',DE h' h.size t0 t1 t2 r0 r1 r2→Upd No h h'→k h'):
  At (hnew h adc ut) (fun b=>rE b (some (ay h)) 0 (w3 t0 t1 t2 r0 r1 r2)∧At (fS b (ay h) 0 (w3 t0 t1 t2 r0 r1 r2)) k):=
 aP fun _ b1 k1=>cF (c:=adc) (vs:=w3 t0 t1 t2 r0 r1 r2) b1 rfl fun h2 b2 a=>d h2 b2 (k1.own a (aj _))
set_option maxHeartbeats 1000000 in
theorem Lg{h:ad}{k p:Int}{x:Hs}{s Y X sg sk:SliceV}{l m n:List Pr}{g gk:List ByteArray}{free:Bool}(tb:Tab h)(hs:Sl ey 2 No h s l)(hl:l.length≤9223372036854775807)(hm:Sl ey 2 No h Y m)(hml:m.length≤9223372036854775807)(hn:Sl ey 2 No h X n)(hnl:n.length≤9223372036854775807)(hg:Sl abq 1 No h sg g)(hgl:g.length≤9223372036854775807)(hgk:Sl abq 1 No h sk gk)(hkl:gk.length≤9223372036854775807)(hk0:0≤k)(hk1:k≤255):
  HC PG yw [.int .u8 k,.agg #[.int .u64 x.k0,.int .u64 x.k1,.int .u64 x.mask],.slice s.a s.len s.cap,.slice Y.a Y.len Y.cap,.slice X.a X.len X.cap,.slice sg.a sg.len sg.cap,.slice sk.a sk.len sk.cap,.bool free,.int .i64 p] [.c .bool] (fun b h'=>b=true∧Upd No h h') h:=by
 refine Gw k (x.k0,x.k1,x.mask) s Y X sg sk free p ?_;unfold yT bE bT pW aI ae cg lX aB bK bV nv AA wN vl1 th zP o9 Bq KW BQ Ue;refine aP fun h1 b1 k1=>Tk fun h3 k3=>ag.2 ?_
 have c1:=k3.get0 b1;have k03:=k1.tr k3;refine⟨_,vc c1 0,_,vc c1 1,_,vc c1 2,?_⟩;have up:∀{α:Type} {f:α→List Value} {z:Nat} {s:SliceV} {xs:List α},Sl f z No h s xs→Sl f z No h3 s xs:=fun hs=>hs.upd k03 fun _ h=>h.elim
 refine V9 (x:=x) hk0 hk1 (up hs) (up hm) (up hn) (up hg) (up hgk) (fun _ h=>h.elim) hl hml hnl hgl hkl free fun h8 t0 t1 t2 r0 r1 r2 i0 i1 i2 j0 j1 j2 k8=>?_
 have f0:Few 200 (gH [] l):=(na few_nil l).mono (by omega);have fF:Few 20 (if free then[]else gH [] l):=by
  split
  ·exact few_nil.mono (by omega)
  ·exact na few_nil l
 have f1:Few 200 (qk (gH (if free then[]else gH [] l) m) g):=(AU (na fF m) g).mono (by omega)
 have f2:Few 200 (qk (gH (if free then[]else gH [] l) n) gk):=(AU (na fF n) gk).mono (by omega)
 have P0:Pk h8 t0 r0:=⟨_,x,_,i0,j0,f0⟩;have P1:Pk h8 t1 r1:=⟨_,x,_,i1,j1,f1⟩;have P2:Pk h8 t2 r2:=⟨_,x,_,i2,j2,f2⟩;clear i0 i1 i2 j0 j1 j2 f0 f1 f2 fF;refine abH (t0:=t0) (t1:=t1) (t2:=t2) (r0:=r0) (r1:=r1) (r2:=r2) fun h10 b10 k10=>aP fun V N k11=>?_
 have T:=k10.tr k11;have W:=(k03.tr k8).tr T;have w11:=k11.get0 b10;have hpol:∀i,i<5→∃q:Int,∀h',Upd No V h'→aJ h' (adr (ay h10) (i*1))=some (.int .i64 q):=fun i hi=>by
  have hi:i=0∨i=1∨i=2∨i=3∨i=4:=by omega
  rcases hi with rfl|rfl|rfl|rfl|rfl
  ·exact⟨0,fun h' k=>vc (k.get0 N) (0*1)⟩
  ·exact⟨1,fun h' k=>vc (k.get0 N) (1*1)⟩
  ·exact⟨2,fun h' k=>vc (k.get0 N) (2*1)⟩
  ·exact⟨3,fun h' k=>vc (k.get0 N) (3*1)⟩
  ·exact⟨p,fun h' k=>vc (k.get0 N) (4*1)⟩
 have D:∀{t:Tr} {r:Rt} {h':ad} {K:Bool→ad→Prop},Pk h8 t r→Upd No h8 h'→Upd No h h'→(∀h2,Upd No h' h2→K true h2)→HC PG qX [yY t,OX r] [.c .bool] K h':=fun{t r h' K} P ku k0 hk=>by
  obtain⟨kd,y,L,i,j,f⟩:=P;exact MB (tb.upd k0 id) (i.upd0 ku) (j.upd0 ku) f.up f.fits (by have:=f.len;omega) hk
 refine LoopP.ghost (fun(i:Nat) (t:Int) h'=>t=(i:Int)∧i≤5∧Upd No V h') (fun i=>5-i) 0 ⟨rfl,aS _,Upd.refl _ _⟩ ?_
 rintro I i ti h14 ⟨rfl,hi,hu⟩ hI;have a:=hu.get0 w11;have d:=T.tr hu;have w:=W.tr hu;refine ax (fun S=>?_) fun hge=>?_
 ·have S:i<5:=by omega
  obtain⟨q,hq⟩:=hpol i S;refine⟨⟨by omega,by omega⟩,_,rfl,q,hq h14 hu,by decide,t0.1,oO a 0 0 0,t0.2.1,oO a 0 0 1,t0.2.2.1,oO a 0 0 2,t0.2.2.2.1,oO a 0 0 3,t0.2.2.2.2.1,oO a 0 0 4,t0.2.2.2.2.2,oO a 0 0 5,by decide,t1.1,oO a 0 6 0,t1.2.1,oO a 0 6 1,t1.2.2.1,oO a 0 6 2,t1.2.2.2.1,oO a 0 6 3,t1.2.2.2.2.1,oO a 0 6 4,t1.2.2.2.2.2,oO a 0 6 5,by decide,t2.1,oO a 0 12 0,t2.2.1,oO a 0 12 1,t2.2.2.1,oO a 0 12 2,t2.2.2.2.1,oO a 0 12 3,t2.2.2.2.2.1,oO a 0 12 4,t2.2.2.2.2.2,oO a 0 12 5,?_⟩
  refine NX (p:=q) (P0.upd0 d) (P1.upd0 d) (P2.upd0 d) fun h36 u sc e kind y L C iL fL hsc lC k36 hto hr=>?_
  refine AD (t:=u) fun h38 b38 U=>?_
  have c:=(k36.tr U).get0 a;refine⟨by decide,r0.1,oO c 18 0 0,r0.2.1,oO c 18 0 1,r0.2.2.1,oO c 18 0 2,r0.2.2.2.1,oO c 18 0 3,r0.2.2.2.2,oO c 18 0 4,by decide,r1.1,oO c 18 5 0,r1.2.1,oO c 18 5 1,r1.2.2.1,oO c 18 5 2,r1.2.2.2.1,oO c 18 5 3,r1.2.2.2.2,oO c 18 5 4,by decide,r2.1,oO c 18 10 0,r2.2.1,oO c 18 10 1,r2.2.2.1,oO c 18 10 2,r2.2.2.2.1,oO c 18 10 3,r2.2.2.2.2,oO c 18 10 4,?_⟩
  refine hr h38 _ U fun h55 r sc' jL hsc' k55=>?_
  refine UJ (r:=r) fun h57 O Q=>?_
  have v:=(U.tr k55).tr Q;have E:=k36.tr v;have A:=(k55.tr Q).get0 b38;have lL:=fL.len;refine Join.intro (fun t h2=>t=false∧Upd No h57 h2) (fun R hR=>?_) ?_
  ·rw[show(e !=e)=false by simp]
   refine ag.2 ⟨_,vc A 0,_,vc A 1,_,vc A 2,_,vc A 3,_,vc A 4,_,vc A 5,_,vc O 0,_,vc O 1,_,vc O 2,_,vc O 3,r.2.2.2.2,vc O 4,?_⟩;refine MB (tb.upd (w.tr E) id) (iL.upd0 v) (jL.upd0 Q) fL.up fL.fits (by omega) fun h71 B=>ag.2 ?_
   refine VF (hsc.upd (v.tr B) fun _ h=>h.elim) (hsc'.upd (Q.tr B) fun _ h=>h.elim) (by omega) fun h73 M=>ag.2 ?_
   refine CondP.intro (fun he=>?_) fun _=>hR _ _ ⟨rfl,B.tr M⟩
   have he:u=t1:=hto (by simpa using he);subst he;have H:=(B.tr M).get0 A;have G:=((E.tr B).tr M).get0 a;refine⟨_,vc H 0,_,vc H 1,_,vc H 2,_,vc H 3,_,vc H 4,_,vc H 5,by decide,u.1,oO G 0 6 0,u.2.1,oO G 0 6 1,u.2.2.1,oO G 0 6 2,u.2.2.2.1,oO G 0 6 3,u.2.2.2.2.1,oO G 0 6 4,u.2.2.2.2.2,oO G 0 6 5,?_⟩
   have Z:=iL.upd0 ((v.tr B).tr M);refine ZH Z Z fun h75 k75=>?_
   rw[decide_eq_true rfl];exact hR _ _ ⟨rfl,(B.tr M).tr k75⟩
  ·rintro t h89 ⟨rfl,k89⟩
   refine ag.2 ?_;rw[cS S (by omega)];exact hI (i+1) _ _ ⟨rfl,S,(hu.tr E).tr k89⟩ (by omega)
 ·refine⟨by decide,t0.1,oO a 0 0 0,t0.2.1,oO a 0 0 1,t0.2.2.1,oO a 0 0 2,t0.2.2.2.1,oO a 0 0 3,t0.2.2.2.2.1,oO a 0 0 4,t0.2.2.2.2.2,oO a 0 0 5,by decide,r0.1,oO a 18 0 0,r0.2.1,oO a 18 0 1,r0.2.2.1,oO a 18 0 2,r0.2.2.2.1,oO a 18 0 3,r0.2.2.2.2,oO a 18 0 4,?_⟩
  refine D P0 d w fun h102 o=>aw.2 ?_
  have J:=o.get0 a;refine⟨by decide,t1.1,oO J 0 6 0,t1.2.1,oO J 0 6 1,t1.2.2.1,oO J 0 6 2,t1.2.2.2.1,oO J 0 6 3,t1.2.2.2.2.1,oO J 0 6 4,t1.2.2.2.2.2,oO J 0 6 5,by decide,r1.1,oO J 18 5 0,r1.2.1,oO J 18 5 1,r1.2.2.1,oO J 18 5 2,r1.2.2.2.1,oO J 18 5 3,r1.2.2.2.2,oO J 18 5 4,?_⟩
  refine D P1 (d.tr o) (w.tr o) fun h115 F=>aw.2 ?_
  have w3:=F.get0 J;refine⟨by decide,t2.1,oO w3 0 12 0,t2.2.1,oO w3 0 12 1,t2.2.2.1,oO w3 0 12 2,t2.2.2.2.1,oO w3 0 12 3,t2.2.2.2.2.1,oO w3 0 12 4,t2.2.2.2.2.2,oO w3 0 12 5,by decide,r2.1,oO w3 18 10 0,r2.2.1,oO w3 18 10 1,r2.2.2.1,oO w3 18 10 2,r2.2.2.2.1,oO w3 18 10 3,r2.2.2.2.2,oO w3 18 10 4,?_⟩
  exact D P2 ((d.tr o).tr F) ((w.tr o).tr F) fun h128 k128=>⟨rfl,((w.tr o).tr F).tr k128⟩
end Go.Proofs
