/- A part of the proof that the named laws of this program answer true, whatever the input. -/
import Derived.Test.YtajpljopgikpgaaGreatDoorPart12
import Derived.Test.YtajpljopgikpgaaGreatDoorPart10
import Derived.Test.YtajpljopgikpgaaGreatDoorPart2
import Derived.Test.YtajpljopgikpgaaGreatDoorPart6
open ByteArray renaming size_extract→ft
open Int renaming toNat_natCast→aX,le_refl→sA,tmod→bE
open List renaming length_singleton→aF,range→dh,map_append→bU,mem_of_getElem?→aE,getElem?_eq_some_iff→aG,getElem?_set_self→f7,getElem?_set_ne→fj,getElem?_of_mem→iU,getElem?_append→nI,mem_append→bM,mem_singleton→au,map_nil→iM,mem_cons→aB,length_cons→aH,length_nil→bL,length_append→ad,getElem?_map→eZ,length_set→cQ,length_map→bF,getElem?_eq_getElem→ag,getElem?_append_left→bK
open Nat renaming le_refl→ao,lt_of_lt_of_le→bG,zero_add→aU,le_succ→gI
namespace Go.Proofs
open Go Go.Lift
def sb(s:SliceV)(y:Nat):Prop:=s.cap≠0∧∃a,s.a=some a∧y=a.block
section
variable {α:Type} {f:α→List Value} {sz:Nat} {ty:TypeId} {M:Nat→Prop} {h:af} {s so:SliceV} {xs out:List α}
theorem _root_.Go.Lift.OwnS.sub(o:OwnS f sz ty M h s xs):∀y,sb s y→M y∧y<h.size:=fun y ⟨hc,a,i,d⟩=>by
 rcases o.blk with j|⟨b,g,c,hm,k,_⟩
 ·exact absurd j hc
 ·rw[i]at c
  cases c;exact⟨d▸hm,d▸aL k⟩
theorem _root_.Go.Lift.OwnS.its(o:OwnS f sz ty M h s xs):OwnS f sz ty (sb s) h s xs:=by
 refine⟨o.len,o.ne,o.cap,?_⟩;by_cases hc:s.cap=0
 ·exact .inl hc
 ·rcases o.blk with g|⟨b,a,c,hm,i,d⟩
  ·exact absurd g hc
  ·exact .inr ⟨b,a,c,⟨hc,_,c,rfl⟩,i,d⟩
theorem xx{a:Option Addr}{n:Nat}:∀y,¬sb ⟨a,n,0⟩ y:=fun _ h=>h.1 rfl
theorem _root_.Go.Lift.OwnS.one{x:α}{b:Nat}(a:∀x,(f x).length=sz∧0<sz)(c:h[b]? =some (.cells (f x).toArray ty (0,0))):OwnS f sz ty (sb ⟨some ⟨b,0,none⟩,1,1⟩) h ⟨some ⟨b,0,none⟩,1,1⟩ [x]:=
 ⟨rfl,a,ao _,.inr ⟨b,[],rfl,⟨by simp,_,rfl,rfl⟩,by simpa using c,by simp⟩⟩
theorem lA{a:Nat}{z:List Value}{t:α}{b:Nat}{K:SliceV→af→Prop}(k:OwnS f sz ty (sb so) h so out)(m:h[b]? =some (.cells (f t).toArray ty (0,0))) (g:cH (f t)=true) (hz:z.length=sz) (d:0<a∧a≤64) (o:out.length+1≤1000000)
  (p:∀s' c,OwnS f sz ty (sb s') c s' (out++ [t])→Upd (sb so) h c→(∀y,sb s' y→(sb so y∨h.size≤y)∧y<c.size)→K s' c):
  ∃xs,SRow h (some ⟨b,0,none⟩) (1*sz) xs∧AppP (some z) sz a ty so.a so.len so.cap 1 xs h K:=by
 refine⟨_,((OwnS.one k.ne m).sl (W:=No) fun _ _ _ h=>h).srow,?_⟩
 refine AppP.own (M:=fun y=>sb so y∨h.size≤y) (ys:= [t]) (k.more fun y j=>.inl j) rfl rfl (by simpa using g) hz d.1 ?_ (.inr (ao _)) fun s' c i n=>p s' c i.its (n.mono fun y j=>j) i.sub
 simp only[aF];calc (out.length+1)*a≤1000000*64:=Nat.mul_le_mul o d.2
  _≤140737488355328:=by omega
end
abbrev i1(n:Int):List Value:= [.int .i64 n]
abbrev Xu(b:Bool):List Value:= [.bool b]
theorem Oa(n:Int):(i1 n).length=1∧0<1:=⟨rfl,by omega⟩
theorem WV(n:Bool):(Xu n).length=1∧0<1:=⟨rfl,by omega⟩
abbrev M2(n:Int)(s1 s2 s3:SliceV):List Value:= [.int .i64 n,.slice s1.a s1.len s1.cap,.slice s2.a s2.len s2.cap,.slice s3.a s3.len s3.cap]
structure R4(h:af)(rb:Nat)(s1 s2 s3:SliceV)(ids:List Int)(lv:List Bool)(is:List Int):Prop where
 bl:∃n,h[rb]? =some (.cells (M2 n s1 s2 s3).toArray gb (0,0))
 o1:OwnS i1 1 gJ (sb s1) h s1 ids
 o2:OwnS Xu 1 j7 (sb s2) h s2 lv
 o3:OwnS i1 1 gJ (sb s3) h s3 is
theorem Ty{n:Nat}(Q:n≤1000){h:af}{K:Option Addr→af→Prop}(H:∀a s1,R4 a h.size s1 ⟨none,0,0⟩ ⟨none,0,0⟩ ((dh n).map fun j=>((j:Nat):Int)+1) [] []→Upd No h a→(∀y,sb s1 y→h.size<y)→K (some ⟨h.size,0,none⟩) a):HC PG Er [.int .i64 n] [.c .ptr] K h:=by
 refine Ut _ ?_;unfold Lh cz aK;refine aN fun M b1 k1=>?_
 have O:=aL b1;refine LoopP.ghost (fun(g:Nat×SliceV) (t:Int) a=>t=(g.1:Int)+1∧g.1≤n∧a[h.size]? =some (.cells (M2 n g.2 ⟨none,0,0⟩ ⟨none,0,0⟩).toArray gb (0,0))∧OwnS i1 1 gJ (sb g.2) a g.2 ((dh g.1).map fun j=>((j:Nat):Int)+1)∧Upd No h a∧∀y,sb g.2 y→h.size<y) (fun g=>n-g.1) (0,⟨none,0,0⟩) ⟨rfl,Nat.zero_le _,b1,OwnS.nil Oa,k1,fun y c=>absurd c (xx y)⟩ ?_
 rintro I ⟨i,s⟩ t C ⟨rfl,hi,d,z,o,m⟩ E;simp only at hi d z o m⊢;refine aM (fun v=>?_) fun G=>?_
 ·have v:i<n:=by omega
  refine Join.plain ⟨_,rfl,s,vc d 1,aN fun L D p=>?_⟩
  have R:=o.size;have P:=aL d;refine lA (f:=i1) (t:=(i:Int)+1) (b:=C.size) (z.upd p fun _ _ h=>h) D rfl rfl ⟨by omega,by omega⟩ (by simp;omega) fun s' a J k' u=>?_
  refine⟨_,rfl,kU (k'.get (p.get0 d) fun h=>by have:=m _ h;omega) (i:=1) (by simp) rfl fun F q k=>?_⟩
  rw[show IntKind.wrap .i64 ((i:Int)+1+1)=((i+1:Nat):Int)+1 by rw[jj (by omega)];omega]
  have N:=p.size;have B:∀y,sb s' y→h.size<y:=fun y c=>(u y c).1.elim (m y) fun h=>by omega
  refine E (i+1,s') _ _ ⟨rfl,by omega,q,?_,((o.tr p).trans k' fun y c=>.inr (by have:=m y c;omega)).own k (ao _),B⟩ (by show n-(i+1)<n-i;omega)
  have e:((dh (i+1)).map fun j=>((j:Nat):Int)+1)=((dh i).map fun j=>((j:Nat):Int)+1)++ [(i:Int)+1]:=by rw[List.range_succ,bU];rfl
  rw[e];exact J.upd k fun y c A=>by have:=B y c;have A:y=h.size:=A;omega
 ·have w:i=n:=by omega
  subst w;exact H C s ⟨⟨_,d⟩,z,OwnS.nil WV,OwnS.nil Oa⟩ o m
theorem Ky{s:ByteArray}{m:Int}(hm:m≤5000){h:af}{K:ByteArray→af→Prop}(a:∀s' h',s'.size≤5030→(m≤0→s'=ul s)→Upd No h h'→K s' h'):HC PG nA [.string s,.int .i64 m] [.c .str] K h:=by
 refine Im s m ?_;unfold Ca;have e:(if 30<(s.size:Int)then(30:Int)else(s.size:Int))=((min s.size 30:Nat):Int):=by split<;>omega
 rw[e];refine⟨⟨by omega,by omega⟩,?_⟩
 simp only[Bd];rw[aX];have z:(s.extract 0 (min s.size 30)).size≤30:=by rw[ft];omega
 refine aM (fun g=>⟨⟨by omega,sA _,by omega,by omega⟩,?_⟩) fun _=>a _ _ (by omega) (fun _=>by unfold ul;rfl) (Upd.refl _ _)
 refine UP fun b c s3 f d=>⟨s3,d,by omega,a _ b (by rw[ByteArray.size_append];omega) (fun h=>by omega) c⟩
theorem H0{s:ByteArray}{h:af}{K:ByteArray→af→Prop}(a:K (ul s) h):HC PG nA [.string s,.int .i64 0] [.c .str] K h:=by
 refine Im s 0 ?_;unfold Ca;have e:(if 30<(s.size:Int)then(30:Int)else(s.size:Int))=((min s.size 30:Nat):Int):=by split<;>omega
 rw[e];refine⟨⟨by omega,by omega⟩,?_⟩
 simp only[Bd];rw[aX];refine aj.2 ?_;unfold ul at a;exact a
end Go.Proofs
namespace Go.Proofs
open Go Go.Lift
abbrev aak(sl sm se sx:SliceV)(pb rb:Option Addr):List Value:= [.slice sl.a sl.len sl.cap,.slice sm.a sm.len sm.cap,.slice se.a se.len se.cap,.slice sx.a sx.len sx.cap,.pointer pb,.pointer rb]
abbrev s0:SliceV:=⟨none,0,0⟩
abbrev Zs(b:Nat):SliceV:=⟨some ⟨b,0,none⟩,1,1⟩
abbrev pA(b:Nat):Option Addr:=some ⟨b,0,none⟩
def PJ(c:Nat):List Int:=(dh c).map fun j=>((j:Nat):Int)+1
def aah(wb b1 b2 rb:Nat)(s1:SliceV)(y:Nat):Prop:=y=wb∨y=b1∨y=b2∨y=rb∨sb s1 y
structure Made(h h':af)(kk:Int)(x:Hs)(c:Nat)(t:Tr)(r:Rt)(wb b1 b2 pb cb rb:Nat)(s1:SliceV):Prop where
 cw:h'[wb]? =some (.cells (aak (Zs b1) (Zs b2) s0 s0 (pA pb) (pA rb)).toArray gB (0,0))
 c1:h'[b1]? =some (.cells (lD t).toArray bm (0,0))
 c2:h'[b2]? =some (.cells (sB r).toArray cq (0,0))
 r4:R4 h' rb s1 s0 s0 (PJ c) [] []
 wo:Wo (aah wb b1 b2 rb s1) h' pb cb c (PJ c) kk x 0 []
 it:TreeIs (Un (aah wb b1 b2 rb s1) cb []) h' kk x t []
 ir:RefIs (Un (aah wb b1 b2 rb s1) cb []) h' kk x r []
 od:wb<b1∧wb<b2∧b1≠b2∧b1<cb∧b2<cb∧pb=cb+1∧pb<rb∧∀y,sb s1 y→rb<y
 mv:Mv No h (Un (aah wb b1 b2 rb s1) cb []) h'
set_option maxRecDepth 100000 in
set_option maxHeartbeats 1000000 in
theorem TM{h:af}{k n kk:Int}{x:Hs}(hkk:kk=0∨kk=1)(ek:IntKind.wrap .i64 (bE k 2)=kk){c:Nat}(ec:IntKind.wrap .i64 (1+IntKind.wrap .i64 (bE n 4))=(c:Int))(h1c:1≤c)(h2c:c≤4){K:Option Addr→af→Prop}
  (hk:∀M t r wb b1 b2 pb cb rb s1,Made h M kk x c t r wb b1 b2 pb cb rb s1→K (pA wb) M):HC PG BE [.int .u8 k,.agg #[.int .u64 x.k0,.int .u64 x.k1,.int .u64 x.mask],.int .u8 n] [.c .ptr] K h:=by
 refine Rf k (x.k0,x.k1,x.mask) n ?_;unfold IR aq nv CC yg M3 bD aQ uO rF dR cz zl4 GA FX Cm GK;rw[ek,ec];refine aN fun w b1 k1=>aN fun h2 b2 k2=>?_
 have z1:=aL b1;have z2:=aL b2;have g1:=k2.get0 b1;refine⟨by decide,_,vc g1 0,_,vc g1 1,_,vc g1 2,?_⟩;refine RM (W:=fun y=>y<h2.size) (x:=x) (fun _ h=>h) hkk fun h7 t i7 k7=>vY (t:=t) fun h9 b9 k9=>?_
 have z9:=aL b9;have g9:=(k7.tr k9).get0 g1;refine⟨by decide,_,vc g9 0,_,vc g9 1,_,vc g9 2,NV fun Q k14=>?_⟩
 have s7:=k7.size;have s14:=k14.size;refine X2 (W:=fun y=>y<Q.size) (x:=x) hkk fun h16 r j16 k16=>RY (r:=r) fun d v k18=>?_
 have s16:=k16.size;have z18:=aL v;have g:=k14.tr (k16.tr k18);have s:=g.get0 b9;have w18:=((k7.tr k9).tr g).get0 b2;have n1:w.size≠h7.size∧w.size≠h16.size∧h7.size≠h16.size:=by omega
 have s1:=k1.size;refine Join.intro (fun _ M=>∃b1 b2,M[w.size]? =some (.cells (aak (Zs b1) (Zs b2) s0 s0 none none).toArray gB (0,0))∧M[b1]? =some (.cells (lD t).toArray bm (0,0))∧M[b2]? =some (.cells (sB r).toArray cq (0,0))∧d.size≤b1∧d.size≤b2∧b1≠b2∧Upd (· =w.size) d M) (fun R hR=>?_) ?_
 ·refine⟨_,vc s 0,_,vc s 1,_,vc s 2,_,vc s 3,_,vc s 4,_,vc s 5,_,vc v 0,_,vc v 1,_,vc v 2,_,vc v 3,r.2.2.2.2,vc v 4,⟨?_,?_⟩⟩
  ·refine aN fun h31 O I=>?_
   have z31:=aL O;have A:=I.get0 v;have w31:=I.get0 w18;refine⟨⟨vc A 0,vc A 1,vc A 2,vc A 3,vc A 4⟩,_,rfl,?_,?_⟩
   ·refine aN fun h33 b33 Y=>?_
    have z33:=aL b33;refine kU (Y.get0 w31) (i:=0) (by simp) rfl fun h34 Z o=>⟨_,rfl,kU Z (i:=1) (by simp) rfl fun h36 w36 J=>?_⟩
    exact hR _ _ ⟨d.size,h31.size,w36,J.oth (o.oth (Y.get0 O) (by omega)) (by omega),J.oth (o.oth b33 (by omega)) (by omega),ao _,by omega,by omega,((I.tr Y).wide.tr o).tr J⟩
   ·refine kU w31 (i:=0) (by simp) rfl fun h34 Z o=>?_
    have D:=o.oth A (by omega);refine⟨⟨vc D 0,vc D 1,vc D 2,vc D 3,vc D 4⟩,aN fun h38 b38 S=>⟨_,rfl,kU (S.get0 Z) (i:=1) (by simp) rfl fun h40 w40 T=>?_⟩⟩
    have z38:=aL b38;have s34:=o.size;exact hR _ _ ⟨d.size,h34.size,w40,T.oth (S.get0 (o.oth O (by omega))) (by omega),T.oth b38 (by omega),ao _,by omega,by omega,((I.wide.tr o).tr S.wide).tr T⟩
  ·refine aN fun h41 b41 k41=>?_
   have z41:=aL b41;have z:=k41.get0 s;refine⟨⟨vc z 0,vc z 1,vc z 2,vc z 3,vc z 4,vc z 5⟩,aN fun h42 b42 k42=>⟨_,rfl,kU (k42.get0 (k41.get0 w18)) (i:=0) (by simp) rfl fun h44 w44 N=>⟨_,rfl,kU w44 (i:=1) (by simp) rfl fun h46 w46 P=>?_⟩⟩⟩
   have z42:=aL b42;exact hR _ _ ⟨h41.size,d.size,w46,P.oth (N.oth b42 (by omega)) (by omega),P.oth (N.oth (k42.get0 b41) (by omega)) (by omega),by omega,ao _,by omega,((k41.tr k42).wide.tr N).tr P⟩
 rintro _ C ⟨L,V,w48,c1,c2,hb1,hb2,hne,H⟩;have zb1:=aL c1;have zb2:=aL c2;have s48:=H.size;refine⟨by decide,Hq h1c (by omega) fun h50 B p50=>?_⟩
 have zp:=aL p50.2.1;have w50:=B.get0 w48;refine⟨_,rfl,kU w50 (i:=4) (by simp) rfl fun X w52 q=>⟨by decide,Ty (by omega) fun h54 E r4 p F=>?_⟩⟩
 have s52:=q.size;have zr:=aL r4.bl.choose_spec;refine⟨_,rfl,kU (p.get0 w52) (i:=5) (by simp) rfl fun u w56 m=>?_⟩
 have s54:=p.size;have s56:=m.size;have kw:Upd (· =w.size) h2 u:=((((((k7.tr k9).tr g).wide.tr H).tr B.wide).tr q).tr p.wide).tr m
 have ns:∀{y},sb E y→y≠w.size:=fun f=>by have:=F _ f;omega
 have lts:∀{y},sb E y→y<u.size:=fun f=>by have:=(r4.o1.sub _ f).2;omega
 have un:∀y,Un (aah w.size L V X.size E) C.size [] y→y=w.size∨d.size≤y:=by
  rintro y ((h|h|h|h|h)|h|⟨e,G,_⟩)
  ·exact .inl h
  ·exact .inr (by omega)
  ·exact .inr (by omega)
  ·exact .inr (by omega)
  ·exact .inr (by have:=F y h;omega)
  ·exact .inr (by omega)
  ·cases G
 have unl:∀y,Un (aah w.size L V X.size E) C.size [] y→y<u.size:=by
  rintro y ((h|h|h|h|h)|h|⟨e,G,_⟩)
  ·omega
  ·omega
  ·omega
  ·omega
  ·exact lts h
  ·omega
  ·cases G
 have pl:PoolAt u (C.size+1) C.size c (PJ c):=((p50.upd q (by omega) (by omega)).upd0 p).upd m (by omega) (by omega);refine hk u t r w.size L V (C.size+1) C.size X.size E ⟨w56,?_,?_,⟨⟨_,m.oth r4.bl.choose_spec (by omega)⟩,r4.o1.upd m fun y f h=>ns f h,OwnS.nil WV,OwnS.nil Oa⟩,⟨pl,by simp[PJ,uU],fun y f=>unl y (.inl f),?_,?_,fun e G=>by(cases G),fun e G=>by(cases G),fun i j a b ha=>by(simp at ha)⟩,?_,?_,⟨by omega,by omega,hne,by omega,by omega,rfl,by omega,F⟩,⟨(k1.tr k2).trans kw fun y f=>.inr (by have f:y=w.size:=f;omega),fun y f=>.inr (by rcases un y f with h|h<;>omega)⟩⟩
 ·exact m.oth (p.get0 (q.oth (B.get0 c1) (by omega))) (by omega)
 ·exact m.oth (p.get0 (q.oth (B.get0 c2) (by omega))) (by omega)
 ·rintro(h|h|h|h|h)
  ·omega
  ·omega
  ·omega
  ·omega
  ·have:=F _ h;omega
 ·rintro((h|h|h|h|h)|h|⟨e,G,_⟩)
  ·omega
  ·omega
  ·omega
  ·omega
  ·have:=F _ h;omega
  ·omega
  ·cases G
 ·have i9:TreeIs (fun y=>y<h2.size∨d.size≤y) d kk x t []:=((i7.upd0 k9).upd0 g).less fun y f=>f
  have kr:Upd (· =w.size) d u:=(((H.tr B.wide).tr q).tr p.wide).tr m
  exact(i9.updM kr fun y f=>.inl (.inl (by have f:y=w.size:=f;omega))).less fun y f=>.inl ((un y f).imp (fun h=>by show y<h2.size;omega) id)
 ·have i9:RefIs (fun y=>y<Q.size∨d.size≤y) d kk x r []:=(j16.upd0 k18).less fun y f=>f
  have kr:Upd (· =w.size) d u:=(((H.tr B.wide).tr q).tr p.wide).tr m
  exact(i9.updM kr fun y f=>.inl (.inl (by have f:y=w.size:=f;omega))).less fun y f=>.inl ((un y f).imp (fun h=>by show y<Q.size;omega) id)
end Go.Proofs
namespace Go.Proofs
open Go Go.Lift
theorem Wo.w0{A:Nat→Prop}{h:af}{pb cb cap n:Nat}{ids:List Int}{a:Int}{x:Hs}{es:List Ed}(w:Wo A h pb cb cap ids a x n es){b:Nat}(d:h.size≤b):¬Un A cb es b:=fun c=>by have:=w.ult b c;omega
end Go.Proofs
namespace Go.Proofs
open Go Go.Lift
structure Sp where
 T:Nat→Prop
 Q:af→Prop
 loc:∀{M:Nat→Prop} {h h':af},Q h→Upd M h h'→(∀y,T y→¬M y)→Q h'
def ym(b:Nat)(cs:List Value)(t:TypeId):Sp:=⟨(· =b),fun h=>h[b]? =some (.cells cs.toArray t (0,0)),fun q k a=>k.get q (a _ rfl)⟩
def ju{α:Type}(f:α→List Value)(sz:Nat)(ty:TypeId)(s:SliceV)(xs:List α):Sp:=⟨sb s,fun h=>OwnS f sz ty (sb s) h s xs,fun q k a=>q.upd k a⟩
def AL(Ss:List Sp)(y:Nat):Prop:=∃s∈Ss,s.T y
structure Own(Ss:List Sp)(h:af):Prop where
 q:∀s∈Ss,s.Q h
 lt:∀s∈Ss,∀y,s.T y→y<h.size
 pd:∀(i j:Nat) (a b:Sp),Ss[i]? =some a→Ss[j]? =some b→i≠j→∀y,a.T y→¬b.T y
section
variable {Ss:List Sp} {h h':af} {M:Nat→Prop} {s s':Sp} {i:Nat}
theorem Own.get(o:Own Ss h)(hi:Ss[i]? =some s):s.Q h:=o.q s (aE hi)
theorem Own.away(o:Own Ss h)(k:Upd M h h')(hm:∀y,AL Ss y→¬M y):Own Ss h':=
 ⟨fun s a=>s.loc (o.q s a) k fun y b=>hm y ⟨s,a,b⟩,fun s a y b=>bG (o.lt s a y b) k.size,o.pd⟩
theorem Own.nil:Own [] h:=⟨(fun _ h=>by cases h),(fun _ h=>by cases h),(fun i j a b h=>by simp at h)⟩
theorem Own.set(o:Own Ss h)(hi:Ss[i]? =some s) (k:Upd M h h') (hm:∀y,M y→s.T y∨h.size≤y) (q:s'.Q h') (A:∀y,s'.T y→(s.T y∨h.size≤y)∧y<h'.size):Own (Ss.set i s') h':=by
 have C:i<Ss.length:=(aG.1 hi).1;have val:∀{j:Nat} {a:Sp},(Ss.set i s')[j]? =some a→(j=i∧a=s')∨(j≠i∧Ss[j]? =some a):=fun{j a} c=>by
  by_cases e:j=i
  ·subst e;rw[f7 C]at c;cases c;exact .inl ⟨rfl,rfl⟩
  ·rw[fj (Ne.symm e)]at c;exact .inr ⟨e,c⟩
 have one:∀{j:Nat} {a:Sp},j≠i→Ss[j]? =some a→∀y,a.T y→¬s'.T y:=fun{j a} f c y d h'=>
  (A y h').1.elim (o.pd j i a s c hi f y d) fun h=>by have:=o.lt a (aE c) y d;omega
 refine⟨fun a c=>?_,fun a c y d=>?_,fun p j a b c B m y d g=>?_⟩
 ·obtain⟨j,f⟩:=iU c
  rcases val f with⟨_,rfl⟩|⟨w,f⟩
  ·exact q
  ·refine a.loc (o.get f) k fun y d hM=>?_
   rcases hm y hM with h|h
   ·exact o.pd j i a s f hi w y d h
   ·have:=o.lt a (aE f) y d;omega
 ·obtain⟨j,f⟩:=iU c
  rcases val f with⟨_,rfl⟩|⟨w,f⟩
  ·exact(A y d).2
  ·exact bG (o.lt a (aE f) y d) k.size
 ·rcases val c with⟨u,rfl⟩|⟨u,v⟩<;>rcases val B with⟨n,rfl⟩|⟨n,z⟩
  ·exact m (u.trans n.symm)
  ·exact one n z y g d
  ·exact one u v y d g
  ·exact o.pd p j a b v z m y d g
theorem Own.push(o:Own Ss h)(k:Upd No h h')(q:s'.Q h')(i:∀y,s'.T y→h.size≤y∧y<h'.size):Own (Ss++ [s']) h':=by
 have val:∀{j:Nat} {a:Sp},(Ss++ [s'])[j]? =some a→(j=Ss.length∧a=s')∨Ss[j]? =some a:=fun{j a} c=>by
  rw[nI]at c;split at c
  ·exact .inr c
  ·have:j-Ss.length=0:=by have:=(aG.1 c).1;simp only[aF]at this;omega
   rw[this]at c;cases c;exact .inl ⟨by omega,rfl⟩
 have mem:∀{a},a∈Ss++ [s']→a∈Ss∨a=s':=fun h=>(bM.1 h).imp id au.1
 refine⟨fun a c=>?_,fun a c y f=>?_,fun p j a b c s g y f d=>?_⟩
 ·rcases mem c with c|rfl
  ·exact a.loc (o.q a c) k fun _ _ h=>h
  ·exact q
 ·rcases mem c with c|rfl
  ·exact bG (o.lt a c y f) k.size
  ·exact(i y f).2
 ·rcases val c with⟨v,rfl⟩|m<;>rcases val s with⟨u,rfl⟩|n
  ·omega
  ·have:=o.lt b (aE n) y d;have:=(i y f).1;omega
  ·have:=o.lt a (aE m) y f;have:=(i y d).1;omega
  ·exact o.pd p j a b m n g y f d
theorem aag(hi:Ss[i]? =some s) {z:Nat} (f:∀y,s'.T y→s.T y∨z≤y):∀y,AL (Ss.set i s') y→AL Ss y∨z≤y:=fun y ⟨a,c,b⟩=>by
 rcases Gp c with rfl|⟨j,_,d⟩
 ·exact(f y b).imp (fun h=>⟨s,aE hi,h⟩) id
 ·exact .inl ⟨a,aE d,b⟩
end
structure Ws(Ss:List Sp)(h:af)(pb cb cap:Nat)(ids:List Int)(kind:Int)(x:Hs)(n:Nat)(es:List Ed):Prop where
 own:Own Ss h
 wo:Wo (AL Ss) h pb cb cap ids kind x n es
section
variable {Ss:List Sp} {h h':af} {pb cb cap n m:Nat} {ids ids':List Int} {kind:Int} {x:Hs} {es es':List Ed} {s s':Sp} {i:Nat} {M:Nat→Prop}
theorem Ws.up0(w:Ws Ss h pb cb cap ids kind x n es)(k:Upd No h h'):Ws Ss h' pb cb cap ids kind x n es:=⟨w.own.away k fun _ _ h=>h,w.wo.up0 k⟩
theorem Ws.set(w:Ws Ss h pb cb cap ids kind x n es)(hi:Ss[i]? =some s) (k:Upd M h h') (hm:∀y,M y→s.T y∨h.size≤y) (q:s'.Q h') (c:∀y,s'.T y→(s.T y∨h.size≤y)∧y<h'.size):Ws (Ss.set i s') h' pb cb cap ids kind x n es∧Mv (Un (AL Ss) cb es) h (Un (AL (Ss.set i s')) cb es) h':=by
 have o:=w.own.set hi k hm q c;have r:=w.wo.own (A':=AL (Ss.set i s')) k (fun y b=>(hm y b).imp (fun h=>⟨s,aE hi,h⟩) id) fun y b=>⟨aag hi (fun y b=>(c y b).1) y b,let⟨a,d,b⟩:=b;o.lt a d y b⟩
 exact⟨⟨o,r.1⟩,r.2⟩
theorem Ws.push(w:Ws Ss h pb cb cap ids kind x n es)(k:Upd No h h')(q:s'.Q h')(d:∀y,s'.T y→h.size≤y∧y<h'.size):Ws (Ss++ [s']) h' pb cb cap ids kind x n es∧Mv (Un (AL Ss) cb es) h (Un (AL (Ss++ [s'])) cb es) h':=by
 have o:=w.own.push k q d;have r:=w.wo.own (A':=AL (Ss++ [s'])) k (fun _ h=>h.elim) fun y ⟨a,b,c⟩=>⟨?_,o.lt a b y c⟩
 ·exact⟨⟨o,r.1⟩,r.2⟩
 ·rcases bM.1 b with b|b
  ·exact .inl ⟨a,b,c⟩
  ·rw[au.1 b]at c;exact .inr (d y c).1
theorem Ws.cell(w:Ws Ss h pb cb cap ids kind x n es){b:Nat}{cs cs':List Value}{t a:TypeId}(hi:Ss[i]? =some (ym b cs t)) (k:Upd (· =b) h h') (q:h'[b]? =some (.cells cs'.toArray a (0,0))):Ws (Ss.set i (ym b cs' a)) h' pb cb cap ids kind x n es∧Mv (Un (AL Ss) cb es) h (Un (AL (Ss.set i (ym b cs' a))) cb es) h':=
 w.set (s':=ym b cs' a) hi k (fun _ h=>.inl h) q fun y c=>⟨.inl c,(show y=b from c)▸aL q⟩
theorem Ws.slice(w:Ws Ss h pb cb cap ids kind x n es){α:Type}{f:α→List Value}{sz:Nat}{ty:TypeId}{a sn:SliceV}{xs ys:List α}(hi:Ss[i]? =some (ju f sz ty a xs)) (k:Upd (sb a) h h') (q:OwnS f sz ty (sb sn) h' sn ys) (b:∀y,sb sn y→(sb a y∨h.size≤y)∧y<h'.size):Ws (Ss.set i (ju f sz ty sn ys)) h' pb cb cap ids kind x n es∧Mv (Un (AL Ss) cb es) h (Un (AL (Ss.set i (ju f sz ty sn ys))) cb es) h':=
 w.set (s':=ju f sz ty sn ys) hi k (fun _ h=>.inl h) q b
theorem Ws.ed(w:Ws Ss h pb cb cap ids kind x n es)(wo:Wo (AL Ss) h' pb cb cap ids' kind x m es')(k:Me (AL Ss) cb es h es' h'):Ws Ss h' pb cb cap ids' kind x m es':=⟨w.own.away k.2 fun _ a h=>h a,wo⟩
theorem Ws.mono(w:Ws Ss h pb cb cap ids kind x n es)(hm:n≤m):Ws Ss h pb cb cap ids kind x m es:=⟨w.own,w.wo.mono hm⟩
theorem Ws.unl(w:Ws Ss h pb cb cap ids kind x n es):∀y,Un (AL Ss) cb es y→y<h.size:=w.wo.ult
end
end Go.Proofs
namespace Go.Proofs
open Go Go.Lift
abbrev p1(a:Option Addr):List Value:= [.pointer a]
theorem YV(a:Option Addr):(p1 a).length=1∧0<1:=⟨rfl,by omega⟩
structure Xd where
 b:Nat
 k:Nat
 ru:Rt
 fz:Bool
abbrev xL(r:Rt)(k:Nat)(fz:Bool):List Value:=sB r++ [.int .i64 (k:Int),.bool fz]
structure WC where
 wb:Nat
 rb:Nat
 pb:Nat
 cb:Nat
 cap:Nat
 N:Int
 kk:Int
 x:Hs
structure WG where
 sl:SliceV
 sm:SliceV
 se:SliceV
 sx:SliceV
 s1:SliceV
 s2:SliceV
 s3:SliceV
 lt:List Tr
 lr:List Rt
 le:List (Option Addr)
 lx:List (Option Addr)
 ids:List Int
 lv:List Bool
 is:List Int
 xs:List Xd
def SW(c:WC)(g:WG):List Sp:=ym c.wb (aak g.sl g.sm g.se g.sx (pA c.pb) (pA c.rb)) gB::ym c.rb (M2 c.N g.s1 g.s2 g.s3) gb::ju lD 6 bm g.sl g.lt::ju sB 5 cq g.sm g.lr::ju p1 1 fS g.se g.le::ju p1 1 gN g.sx g.lx::
 ju i1 1 gJ g.s1 g.ids::ju Xu 1 j7 g.s2 g.lv::ju i1 1 gJ g.s3 g.is::g.xs.map fun y=>ym y.b (xL y.ru y.k y.fz) lR
abbrev WC.U(c:WC)(Ss:List Sp)(es:List Ed):Nat→Prop:=Un (AL Ss) c.cb es
def g0(b1 b2:Nat)(s1:SliceV)(t:Tr)(r:Rt)(n:Nat):WG:=⟨Zs b1,Zs b2,s0,s0,s1,s0,s0,[t],[r],[],[],PJ n,[],[],[]⟩
theorem Made.ws{h q:af}{kk:Int}{x:Hs}{n:Nat}{t:Tr}{r:Rt}{wb b1 b2 pb cb rb:Nat}{s1:SliceV}(md:Made h q kk x n t r wb b1 b2 pb cb rb s1):∃N,∀c,c=WC.mk wb rb pb cb n N kk x→
  Ws (SW c (g0 b1 b2 s1 t r n)) q pb cb n (PJ n) kk x 0 []∧TreeIs (c.U (SW c (g0 b1 b2 s1 t r n)) []) q kk x t []∧RefIs (c.U (SW c (g0 b1 b2 s1 t r n)) []) q kk x r []∧Mv No h (c.U (SW c (g0 b1 b2 s1 t r n)) []) q:=by
 obtain⟨N,C⟩:=md.r4.bl;refine⟨N,fun c hc=>?_⟩
 subst hc;obtain⟨H,L,D,K,F,G,J,B⟩:=md.od;have A:∀y,AL (SW ⟨wb,rb,pb,cb,n,N,kk,x⟩ (g0 b1 b2 s1 t r n)) y→aah wb b1 b2 rb s1 y:=by
  rintro y ⟨s,p,f⟩;simp only[SW,g0,iM,aB,List.not_mem_nil,or_false]at p;rcases p with rfl|rfl|rfl|rfl|rfl|rfl|rfl|rfl|rfl
  ·exact .inl f
  ·exact .inr (.inr (.inr (.inl f)))
  ·obtain⟨_,a,d,e⟩:=f;cases d;exact .inr (.inl e)
  ·obtain⟨_,a,d,e⟩:=f;cases d;exact .inr (.inr (.inl e))
  ·exact absurd f (xx y)
  ·exact absurd f (xx y)
  ·exact .inr (.inr (.inr (.inr f)))
  ·exact absurd f (xx y)
  ·exact absurd f (xx y)
 have m:=md.wo.own (A':=AL (SW ⟨wb,rb,pb,cb,n,N,kk,x⟩ (g0 b1 b2 s1 t r n))) (Upd.refl No q) (fun _ h=>h.elim) fun y f=>⟨.inl (A y f),md.wo.lt y (A y f)⟩
 have sl:∀{b y},sb (Zs b) y→y=b:=fun⟨_,a,d,e⟩=>by cases d;exact e
 have I:Own [] q:=Own.nil;have pd:∀(i j:Nat) (a b:Sp),(SW ⟨wb,rb,pb,cb,n,N,kk,x⟩ (g0 b1 b2 s1 t r n))[i]? =some a→(SW ⟨wb,rb,pb,cb,n,N,kk,x⟩ (g0 b1 b2 s1 t r n))[j]? =some b→i<j→∀y,a.T y→¬b.T y:=by
  intro i j a b d u z y f g;have hi:i<9:=by have:=(aG.1 d).1;exact this
  have E:j<9:=by have:=(aG.1 u).1;exact this
  have o:∀(i:Nat) (a:Sp),(SW ⟨wb,rb,pb,cb,n,N,kk,x⟩ (g0 b1 b2 s1 t r n))[i]? =some a→a.T y→(i=0∧y=wb)∨(i=1∧y=rb)∨(i=2∧y=b1)∨(i=3∧y=b2)∨(i=6∧rb<y):=fun i a d f=>by
   match i,d with
   |0,d=>cases d;exact .inl ⟨rfl,f⟩
   |1,d=>cases d;exact .inr (.inl ⟨rfl,f⟩)
   |2,d=>cases d;exact .inr (.inr (.inl ⟨rfl,sl f⟩))
   |3,d=>cases d;exact .inr (.inr (.inr (.inl ⟨rfl,sl f⟩)))
   |4,d=>cases d;exact absurd f (xx y)
   |5,d=>cases d;exact absurd f (xx y)
   |6,d=>cases d;exact .inr (.inr (.inr (.inr ⟨rfl,B y f⟩)))
   |7,d=>cases d;exact absurd f (xx y)
   |8,d=>cases d;exact absurd f (xx y)
   |k+9,d=>exact absurd d (by simp[SW,g0])
  rcases o i a d f with⟨h,e⟩|⟨h,e⟩|⟨h,e⟩|⟨h,e⟩|⟨h,e⟩<;>rcases o j b u g with⟨v,w⟩|⟨v,w⟩|⟨v,w⟩|⟨v,w⟩|⟨v,w⟩<;>omega
 refine⟨⟨⟨fun s p=>?_,fun s p y f=>md.wo.lt y (A y ⟨s,p,f⟩),fun i j a b d u z y f g=>?_⟩,m.1⟩,md.it.mv m.2,md.ir.mv m.2,md.mv.tr m.2⟩
 ·simp only[SW,g0,iM,aB,List.not_mem_nil,or_false]at p
  rcases p with rfl|rfl|rfl|rfl|rfl|rfl|rfl|rfl|rfl
  ·exact md.cw
  ·exact C
  ·exact OwnS.one Zk md.c1
  ·exact OwnS.one Zu md.c2
  ·exact OwnS.nil YV
  ·exact OwnS.nil YV
  ·exact md.r4.o1
  ·exact OwnS.nil WV
  ·exact OwnS.nil Oa
 ·rcases Nat.lt_or_ge i j with h|h
  ·exact pd i j a b d u h y f g
  ·exact pd j i b a u d (by omega) y g f
end Go.Proofs
namespace Go.Proofs
open Go Go.Lift
theorem OwnS.set1{α:Type}{f:α→List Value}{ty:TypeId}{h:af}{s:SliceV}{xs:List α}{k:Nat}{x:α}{v:Value}(o:OwnS f 1 ty (sb s) h s xs)(n:f x= [v])(p:k<xs.length):
  ∃a,s.a=some a∧Wr h (adr a (k*1))∧OwnS f 1 ty (sb s) (hset h (adr a (k*1)) v) s (xs.set k x)∧Upd (sb s) h (hset h (adr a (k*1)) v):=by
 obtain⟨a,i,hm,g,q,m⟩:=OwnS.setAt o p x;have e:g8 h (adr a (k*1)) 0 (f x)=hset h (adr a (k*1)) v:=by
  rw[n];simp only[g8];rcases o.blk with j|⟨b,d,c,_,_,_⟩
  ·have:=o.len;have:=o.cap;omega
  ·rw[i]at c
   cases c;simp[cd]
 rw[e]at q m;refine⟨a,i,?_,by rw[List.set_eq_take_append_cons_drop,if_pos p];exact q,m.mono fun y u=>.inl (by rw[show y=a.block from u];exact hm)⟩
 rw[n]at g;rcases g with j|⟨b,c,g⟩
 ·cases j
 ·cases c
  have:=g 0 (by simp);rcases o.blk with j|⟨b,d,c,_,_,_⟩
  ·have:=o.len;have:=o.cap;omega
  ·rw[i]at c
   cases c;simpa[cd]using this
section
variable {c:WC} {g:WG} {h:af} {pb cb cap n:Nat} {ids:List Int} {kk:Int} {x:Hs} {es:List Ed}
set_option maxHeartbeats 1000000 in
theorem Hi(w:Ws (SW c g) h pb cb cap ids kk x n es){i:Int}{b:List Int}(hi:g.ids=i::b)(hn:g.ids.length≤1000∧g.lv.length≤1000∧g.is.length≤1000){K:Int×Int→af→Prop}
  (hk:∀P s1 s2 s3,Ws (SW c {g with s1:=s1,s2:=s2,s3:=s3,ids:=b,lv:=g.lv++ [true],is:=g.is++ [i]}) P pb cb cap ids kk x n es→Mv (Un (AL (SW c g)) cb es) h (Un (AL (SW c {g with s1:=s1,s2:=s2,s3:=s3,ids:=b,lv:=g.lv++ [true],is:=g.is++ [i]})) cb es) P→K ((g.is.length:Nat),0) P):
  HC PG uh [.pointer (pA c.rb)] [.c (.int .i64),.c (.int .i64)] K h:=by
 refine Ik _ ?_;unfold B9 bH cS cz aK;have Q:h[c.rb]? =some (.cells (M2 c.N g.s1 g.s2 g.s3).toArray gb (0,0)):=w.own.get (i:=1) rfl;have o1:OwnS i1 1 gJ (sb g.s1) h g.s1 g.ids:=w.own.get (i:=6) rfl;have l1:=o1.len;rw[hi,aH]at l1;refine⟨_,rfl,g.s1,vc Q 1,CondP.intro (fun h0=>?_) fun _=>?_⟩
 ·have h0:(g.s1.len:Int)=0:=by simpa using h0
  omega
 refine Join.intro (fun _ P=>∃s2 s3,Ws (SW c {g with s2:=s2,s3:=s3,lv:=g.lv++ [true],is:=g.is++ [i]}) P pb cb cap ids kk x n es∧Mv (Un (AL (SW c g)) cb es) h (Un (AL (SW c {g with s2:=s2,s3:=s3,lv:=g.lv++ [true],is:=g.is++ [i]})) cb es) P) (fun R hR=>?_) ?_
 ·obtain⟨a,hav,_,hv⟩:=(o1.sl (W:=No) fun _ _ _ h=>h).at0 (i:=0) (x:=i) (by rw[hi];rfl)
  have fin:∀{N:af} {s2 s3:SliceV},Ws (((SW c g).set 8 (ju i1 1 gJ s3 (g.is++ [i]))).set 7 (ju Xu 1 j7 s2 (g.lv++ [true]))) N pb cb cap ids kk x n es→Mv (Un (AL (SW c g)) cb es) h (Un (AL (((SW c g).set 8 (ju i1 1 gJ s3 (g.is++ [i]))).set 7 (ju Xu 1 j7 s2 (g.lv++ [true])))) cb es) N→
    aR N (adr ⟨c.rb,0,none⟩ 1)=some (.slice g.s1.a g.s1.len g.s1.cap)∧∃a20:Addr,pA c.rb=some a20∧(Wr N (adr a20 3)∧At (hset N (adr a20 3) (.slice s3.a s3.len s3.cap)) fun G=>∃a22:Addr,pA c.rb=some a22∧(Wr G (adr a22 2)∧At (hset G (adr a22 2) (.slice s2.a s2.len s2.cap)) fun h23=>R () h23)):=by
   intro N s2 s3 wC mC;have crC:N[c.rb]? =some (.cells (M2 c.N g.s1 g.s2 g.s3).toArray gb (0,0)):=wC.own.get (i:=1) rfl;refine⟨vc crC 1,_,rfl,kU crC (i:=3) (by simp) rfl fun G b21 u21=>⟨_,rfl,kU b21 (i:=2) (by simp) rfl fun h23 b23 u23=>?_⟩⟩
   have r23:=wC.cell (i:=1) (cs':=M2 c.N g.s1 s2 s3) rfl (u21.tr u23) b23;exact hR _ _ ⟨s2,s3,r23.1,mC.tr r23.2⟩
  refine⟨_,rfl,g.s3,vc Q 3,_,rfl,g.s1,vc Q 1,⟨sA _,by omega⟩,a,hav,i,hv,_,rfl,g.s2,vc Q 2,?_,?_⟩
  ·refine aN fun h12 b12 p=>?_
   have v:=w.up0 p;have d:=p.get0 Q;refine⟨vc d 2,vc d 1,vc d 3,?_,?_⟩
   ·refine lA (f:=i1) (t:=i) (v.own.get (i:=8) rfl) b12 rfl rfl ⟨by omega,by omega⟩ (by omega) fun s3 h15 o15 k15 hs15=>?_
    have F:=v.slice (i:=8) (xs:=g.is) rfl k15 o15 hs15;have k:h15[c.rb]? =some (.cells (M2 c.N g.s1 g.s2 g.s3).toArray gb (0,0)):=F.1.own.get (i:=1) rfl;refine⟨vc k 2,vc k 1,aN fun h16 b16 L=>?_⟩
    have S:=F.1.up0 L;have E:=L.get0 k;refine⟨vc E 2,vc E 1,lA (f:=Xu) (t:=true) (S.own.get (i:=7) rfl) b16 rfl rfl ⟨by omega,by omega⟩ (by omega) fun s2 h19 o19 k19 hs19=>?_⟩
    have r19:=S.slice (i:=7) (xs:=g.lv) rfl k19 o19 hs19;exact fin r19.1 ((((Mv.of0 p).tr F.2).up0 L).tr r19.2)
   ·refine aN fun h24 X A=>?_
    have Z:=v.up0 A;have o:=A.get0 d;refine⟨vc o 2,vc o 1,vc o 3,lA (f:=i1) (t:=i) (Z.own.get (i:=8) rfl) (A.get0 b12) rfl rfl ⟨by omega,by omega⟩ (by omega) fun s3 h27 o27 T hs27=>?_⟩
    have s:=Z.slice (i:=8) (xs:=g.is) rfl T o27 hs27;have D:h27[c.rb]? =some (.cells (M2 c.N g.s1 g.s2 g.s3).toArray gb (0,0)):=s.1.own.get (i:=1) rfl;have z24:=aL X;have b27:=T.get X fun hb=>by have:=v.own.lt _ (aE (i:=8) rfl) _ hb;omega
    refine⟨vc D 2,vc D 1,lA (f:=Xu) (t:=true) (s.1.own.get (i:=7) rfl) b27 rfl rfl ⟨by omega,by omega⟩ (by omega) fun s2 h30 o30 k30 hs30=>?_⟩
    have V:=s.1.slice (i:=7) (xs:=g.lv) rfl k30 o30 hs30;exact fin V.1 (((Mv.of0 (p.tr A)).tr s.2).tr V.2)
  ·refine aN fun h35 Y u=>?_
   have w35:=w.up0 u;have j:=u.get0 Q;refine⟨vc j 2,u.cell0 hv,vc j 1,vc j 3,aN fun h36 b36 q=>?_⟩
   have w36:=w35.up0 q;have m:=q.get0 j;refine⟨vc m 2,vc m 1,vc m 3,lA (f:=i1) (t:=i) (w36.own.get (i:=8) rfl) b36 rfl rfl ⟨by omega,by omega⟩ (by omega) fun s3 h39 o39 k39 hs39=>?_⟩
   have z:=w36.slice (i:=8) (xs:=g.is) rfl k39 o39 hs39;have C:h39[c.rb]? =some (.cells (M2 c.N g.s1 g.s2 g.s3).toArray gb (0,0)):=z.1.own.get (i:=1) rfl;have z35:=aL Y;have b39:=k39.get (q.get0 Y) fun hb=>by have:=w.own.lt _ (aE (i:=8) rfl) _ hb;omega
   refine⟨vc C 2,vc C 1,lA (f:=Xu) (t:=true) (z.1.own.get (i:=7) rfl) b39 rfl rfl ⟨by omega,by omega⟩ (by omega) fun s2 h42 o42 k42 hs42=>?_⟩
   have r42:=z.1.slice (i:=7) (xs:=g.lv) rfl k42 o42 hs42;exact fin r42.1 (((Mv.of0 (u.tr q)).tr z.2).tr r42.2)
 ·rintro _ h48 ⟨s2,s3,w48,m48⟩
  have l3:s3.len=(g.is++ [i]).length:=(w48.own.get (i:=8) rfl:OwnS i1 1 gJ (sb s3) h48 s3 (g.is++ [i])).len;refine Join.plain (aN fun B b50 k50=>?_)
  have O:=w48.up0 k50;have cr50:B[c.rb]? =some (.cells (M2 c.N g.s1 s2 s3).toArray gb (0,0)):=O.own.get (i:=1) rfl;have H:OwnS i1 1 gJ (sb g.s1) B g.s1 g.ids:=O.own.get (i:=6) rfl;rw[hi]at H;refine⟨_,rfl,g.s1,vc cr50 1,⟨by omega,by omega⟩,_,(abu (H.sl (W:=No) fun _ _ _ h=>h) H.cap).srow,?_⟩
  refine AppP.own (f:=i1) (xs:= []) (ys:=b) (M:=fun y=>B.size≤y) (OwnS.nil Oa) (by show g.s1.len-1=b.length;omega) rfl ?_ rfl (by omega) ?_ (ao _) fun s1 h55 I k55=>?_
  ·exact(fun l=>by induction l with|nil=>rfl|cons a l ih=>rw[List.flatMap_cons];exact kA rfl ih:∀l:List Int,cH (l.flatMap i1)=true) b
  ·have:b.length≤1000:=by have:=hn.1;rw[hi,aH]at this;omega
   simp only[bL];omega
  ·have k0:Upd No B h55:=k55.mono fun y hy=>.inr hy
   have J:=O.set (i:=6) (s':=ju i1 1 gJ s1 ([]++b)) rfl k0 (fun _ h=>h.elim) I.its fun y hy=>⟨.inr (I.sub y hy).1,(I.sub y hy).2⟩
   have cr55:h55[c.rb]? =some (.cells (M2 c.N g.s1 s2 s3).toArray gb (0,0)):=J.1.own.get (i:=1) rfl;refine⟨_,rfl,kU cr55 (i:=1) (by simp) rfl fun h57 b57 u57=>⟨_,rfl,s3,vc b57 3,?_⟩⟩
   have r57:=J.1.cell (i:=1) (cs':=M2 c.N s1 s2 s3) rfl u57 b57;have e:IntKind.wrap .i64 ((s3.len:Int)-1)=((g.is.length:Nat):Int):=by
    have:=hn.2.2;rw[l3,ad,aF,jj (by omega)];omega
   rw[e];exact hk h57 s1 s2 s3 r57.1 (((m48.up0 k50).tr J.2).tr r57.2)
theorem Kp(w:Ws (SW c g) h pb cb cap ids kk x n es){k:Nat}{t:Int}(u:g.is[k]? =some t) (q:g.lv[k]? =some true) (hn:g.ids.length≤1000) {K:Int→af→Prop}
  (X:∀h' s1,Ws (SW c {g with s1:=s1,ids:=g.ids++ [t],lv:=g.lv.set k false}) h' pb cb cap ids kk x n es→Mv (Un (AL (SW c g)) cb es) h (Un (AL (SW c {g with s1:=s1,ids:=g.ids++ [t],lv:=g.lv.set k false})) cb es) h'→K 0 h'):
  HC PG Ac [.pointer (pA c.rb),.int .i64 (k:Nat)] [.c (.int .i64)] K h:=by
 refine Uu _ _ ?_;unfold Li bH cS cz aK;have R:h[c.rb]? =some (.cells (M2 c.N g.s1 g.s2 g.s3).toArray gb (0,0)):=w.own.get (i:=1) rfl;have o2:OwnS Xu 1 j7 (sb g.s2) h g.s2 g.lv:=w.own.get (i:=7) rfl;have o3:OwnS i1 1 gJ (sb g.s3) h g.s3 g.is:=w.own.get (i:=8) rfl;have H:k<g.lv.length:=(aG.1 q).1;have Y:k<g.is.length:=(aG.1 u).1
 have l2:=o2.len;have l3:=o3.len;obtain⟨a,O,_,hv⟩:=(o2.sl (W:=No) fun _ _ _ h=>h).at0 (i:=k) (x:=true) q
 obtain⟨a',z,S,Z,P⟩:=OwnS.set1 (k:=k) (x:=false) (v:=.bool false) o2 rfl H;have C:=w.slice (i:=7) (xs:=g.lv) (sn:=g.s2) rfl P Z fun y Q=>⟨.inl Q,bG (o2.sub y Q).2 P.size⟩
 refine⟨_,rfl,g.s2,vc R 2,⟨by omega,by omega⟩,a,O,true,hv,aj.2 ⟨_,rfl,g.s2,vc R 2,⟨by omega,by omega⟩,a',z,S,ce ?_⟩⟩
 have b:=C.1.own.get (i:=1) rfl;have b:(hset h (adr a' (k*1)) (.bool false))[c.rb]? =some (.cells (M2 c.N g.s1 g.s2 g.s3).toArray gb (0,0)):=b;have L:OwnS i1 1 gJ (sb g.s3) (hset h (adr a' (k*1)) (.bool false)) g.s3 g.is:=C.1.own.get (i:=8) rfl;obtain⟨V,s,_,I⟩:=(L.sl (W:=No) fun _ _ _ h=>h).at0 (i:=k) (x:=t) u
 refine⟨_,rfl,g.s1,vc b 1,_,rfl,g.s3,vc b 3,⟨by omega,by omega⟩,V,s,t,I,aN fun T J o=>?_⟩
 have B:=C.1.up0 o;have d:=o.get0 b;refine⟨vc d 3,vc d 1,lA (f:=i1) (t:=t) (B.own.get (i:=6) rfl) J rfl rfl ⟨by omega,by omega⟩ (by omega) fun s1 M D F p=>?_⟩
 have m:=B.slice (i:=6) (xs:=g.ids) rfl F D p;have j:M[c.rb]? =some (.cells (M2 c.N g.s1 g.s2 g.s3).toArray gb (0,0)):=m.1.own.get (i:=1) rfl;refine⟨vc j 3,_,rfl,kU j (i:=1) (by simp) rfl fun E N G=>?_⟩
 have A:=m.1.cell (i:=1) (cs':=M2 c.N s1 g.s2 g.s3) rfl G N;exact X E s1 A.1 (((C.2.up0 o).tr m.2).tr A.2)
end
end Go.Proofs
namespace Go.Proofs
open Go Go.Lift
theorem LJ{h:af}{b n:Nat}{t:TypeId}{c d vs:List Value}(a:h[b]? =some (.cells (d++c).toArray t (0,0))) (f:0=n) (i:vs.length=d.length) {k:af→Prop}
  (g:∀h',h'[b]? =some (.cells (vs++c).toArray t (0,0))→Upd (· =b) h h'→k h'):vo h (some (adr ⟨b,0,none⟩ n)) 0 vs∧At (g8 h (adr ⟨b,0,none⟩ n) 0 vs) k:=by
 subst f;rw[cd,aU];have e:=jH vs h 0 0 (d++c) a (by rw[ad];omega);refine⟨.inr ⟨_,rfl,fun j m=>by rw[cd];exact jd a (by rw[List.size_toArray,ad];omega)⟩,ce ?_⟩
 rw[e];refine g _ ?_ (Upd.set h _ rfl);rw[jw a];congr 3
 simp only[Nat.add_zero,List.take_zero,List.nil_append,aU];rw[i,List.drop_left]
section
variable {c:WC} {g:WG} {h:af} {pb cb cap n:Nat} {ids:List Int} {kk:Int} {x:Hs} {es:List Ed} {i:Nat} {y y':Xd} {l:List Pr}
theorem SW.ax(a:g.xs[i]? =some y):(SW c g)[i+9]? =some (ym y.b (xL y.ru y.k y.fz) lR):=by
 show(g.xs.map fun y=>ym y.b (xL y.ru y.k y.fz) lR)[i]? =_
 rw[eZ,a];rfl
theorem SW.sx:(SW c g).set (i+9) (ym y.b (xL y.ru y.k y.fz) lR)=SW c {g with xs:=g.xs.set i y}:=by
 simp only[SW,List.set_cons_succ,List.map_set]
theorem Ws.xc(w:Ws (SW c g) h pb cb cap ids kk x n es)(a:g.xs[i]? =some y):h[y.b]? =some (.cells (xL y.ru y.k y.fz).toArray lR (0,0)):=w.own.get (SW.ax a)
theorem Ws.xset(w:Ws (SW c g) h pb cb cap ids kk x n es)(d:g.xs[i]? =some y) {a:af} (u:Upd (· =y.b) h a) (b:y'.b=y.b) (q:a[y.b]? =some (.cells (xL y'.ru y'.k y'.fz).toArray lR (0,0))):
  Ws (SW c {g with xs:=g.xs.set i y'}) a pb cb cap ids kk x n es∧Mv (Un (AL (SW c g)) cb es) h (Un (AL (SW c {g with xs:=g.xs.set i y'})) cb es) a:=by
 have r:=w.cell (SW.ax d) u q;rw[←b,SW.sx]at r;exact r
theorem Ko(w:Ws (SW c g) h pb cb cap ids kk x n es)(b:g.xs[i]? =some y) (j:RefIs (Un (AL (SW c g)) cb es) h kk x y.ru l) (up:cA l) (len:l.length≤1000000) (p:Pr) {K:Int→af→Prop}
  (S:y.fz=true→∀h',Upd No h h'→K 5 h') (C:y.fz=false→∀h' ru',Ws (SW c {g with xs:=g.xs.set i {y with ru:=ru'}}) h' pb cb cap ids kk x n es→Mv (Un (AL (SW c g)) cb es) h (Un (AL (SW c {g with xs:=g.xs.set i {y with ru:=ru'}})) cb es) h'→RefIs (Un (AL (SW c {g with xs:=g.xs.set i {y with ru:=ru'}})) cb es) h' kk x ru' (mZ l p)→K (DW p) h'):
  HC PG Ab [.pointer (pA y.b),.agg #[.string p.1,.string p.2]] [.c (.int .i64)] K h:=by
 refine Uo _ p ?_;unfold Ld aq aD eX nv bD oZ dR GA FX GK tc gO ci Lw aK ph dZ;refine aN fun Z b1 k1=>?_
 have G:=w.up0 k1;have v:=G.xc b;refine⟨_,rfl,y.fz,vc v 6,CondP.intro (fun L=>S L Z k1) fun L=>?_⟩
 have z1:=aL b1;have zx:=aL (w.xc b);refine⟨_,rfl,_,ga v 0 0,_,ga v 0 1,_,ga v 0 2,_,ga v 0 3,y.ru.2.2.2.2,ga v 0 4,_,vc b1 0,_,vc b1 1,?_,?_⟩
 ·refine zV (j.upd0 k1) G.unl up len p fun h13 f P z=>RY (r:=f) fun h15 m s=>?_
  have J:=G.up0 (z.tr s);refine⟨_,vc m 0,_,vc m 1,_,vc m 2,_,vc m 3,f.2.2.2.2,vc m 4,_,rfl,?_⟩;refine LJ (d:=sB y.ru) (c:= [.int .i64 (y.k:Int),.bool y.fz]) (vs:=sB f) (J.xc b) rfl rfl fun M Q V=>?_
  have q:=J.xset b (y':={y with ru:=f}) V rfl Q;exact C L M f q.1 ((Mv.of0 (k1.tr (z.tr s))).tr q.2) ((P.upd0 s).mv q.2)
 ·refine aN fun Y H o=>?_
  have E:=G.up0 o;have a:=E.xc b;have I:=o.get0 b1;refine⟨⟨vc I 0,vc I 1⟩,⟨ga a 0 0,ga a 0 1,ga a 0 2,ga a 0 3,ga a 0 4⟩,?_⟩;have z23:=aL H;have jl:RefIs (fun y=>Un (AL (SW c g)) cb es y∨y=Z.size) Y kk x y.ru l:=((j.upd0 k1).less fun y b=>b.imp id fun h=>by omega).upd0 o
  refine zV jl (fun y b=>b.elim (E.unl y) fun h=>by omega) up len p fun h25 f W B=>?_
  refine cW (c:=sB UL) (vs:=sB f) (B.get0 H) rfl fun T k F=>?_
  have A:=(o.tr B).own F (ao _);have D:=G.up0 A;have O:RefIs (Un (AL (SW c g)) cb es) T kk x f (mZ l p):=(W.updM F fun y b=>.inl (.inr b)).less fun y b=>.inl (.inl b)
  refine⟨_,vc k 0,_,vc k 1,_,vc k 2,_,vc k 3,f.2.2.2.2,vc k 4,_,rfl,?_⟩;refine LJ (d:=sB y.ru) (c:= [.int .i64 (y.k:Int),.bool y.fz]) (vs:=sB f) (D.xc b) rfl rfl fun N R X=>?_
  have u:=D.xset b (y':={y with ru:=f}) X rfl R;exact C L N f u.1 ((Mv.of0 (k1.tr A)).tr u.2) (O.mv u.2)
theorem Hh(w:Ws (SW c g) h pb cb cap ids kk x n es)(C:g.xs[i]? =some y) (j:RefIs (Un (AL (SW c g)) cb es) h kk x y.ru l) (up:cA l) (fit:Fit l) (len:l.length≤1000000) (k:ByteArray) {K:Int→af→Prop}
  (z:y.fz=true→K 5 h) (A:y.fz=false→∀h' ru',Ws (SW c {g with xs:=g.xs.set i {y with ru:=ru'}}) h' pb cb cap ids kk x n es→Mv (Un (AL (SW c g)) cb es) h (Un (AL (SW c {g with xs:=g.xs.set i {y with ru:=ru'}})) cb es) h'→RefIs (Un (AL (SW c {g with xs:=g.xs.set i {y with ru:=ru'}})) cb es) h' kk x ru' (pV l k)→K (Eu l k) h'):
  HC PG xK [.pointer (pA y.b),.string k] [.c (.int .i64)] K h:=by
 refine Q5 _ k ?_;unfold IB aq nv bD dR GA FX GK gO ci Lw aK ph dZ;have m:=w.xc C;refine⟨_,rfl,y.fz,vc m 6,CondP.intro (fun v=>z v) fun v=>?_⟩
 refine⟨_,rfl,_,ga m 0 0,_,ga m 0 1,_,ga m 0 2,_,ga m 0 3,y.ru.2.2.2.2,ga m 0 4,?_⟩;refine CA j w.unl up fit len k fun E p B q=>RY (r:=p) fun F a f=>?_
 have o:=w.up0 (q.tr f);refine⟨_,vc a 0,_,vc a 1,_,vc a 2,_,vc a 3,p.2.2.2.2,vc a 4,_,rfl,?_⟩;refine LJ (d:=sB y.ru) (c:= [.int .i64 (y.k:Int),.bool y.fz]) (vs:=sB p) (o.xc C) rfl rfl fun s D u=>?_
 have b:=o.xset C (y':={y with ru:=p}) u rfl D;exact A v s p b.1 ((Mv.of0 (q.tr f)).tr b.2) ((B.upd0 f).mv b.2)
theorem LS(w:Ws (SW c g) h pb cb cap ids kk x n es)(m:g.xs[i]? =some y) (o:y.fz=false) {t:Int} (b:g.is[y.k]? =some t) (d:g.lv[y.k]? =some true) (p:g.ids.length≤1000) {K:Int→af→Prop}
  (q:∀h' s1,Ws (SW c {g with s1:=s1,ids:=g.ids++ [t],lv:=g.lv.set y.k false,xs:=g.xs.set i {y with fz:=true}}) h' pb cb cap ids kk x n es→Mv (Un (AL (SW c g)) cb es) h (Un (AL (SW c {g with s1:=s1,ids:=g.ids++ [t],lv:=g.lv.set y.k false,xs:=g.xs.set i {y with fz:=true}})) cb es) h'→K 0 h'):
  HC PG tH [.pointer (pA c.rb),.pointer (pA y.b)] [.c (.int .i64)] K h:=by
 refine Dm _ _ ?_;unfold ya cz gO dZ jQ;have k:=w.xc m;refine⟨_,rfl,y.fz,vc k 6,?_⟩;rw[o];refine aj.2 ⟨_,rfl,_,vc k 5,Kp w b d p fun A s1 f z=>?_⟩
 have a:({g with s1:=s1,ids:=g.ids++ [t],lv:=g.lv.set y.k false}:WG).xs[i]? =some y:=m;refine⟨_,rfl,kU (f.xc a) (i:=6) (by simp) rfl fun u s v=>?_⟩
 have j:=f.xset a (y':={y with fz:=true}) v rfl s;exact q u s1 j.1 (z.tr j.2)
theorem LR(w:Ws (SW c g) h pb cb cap ids kk x n es)(f:g.xs[i]? =some y) (b:y.fz=true) {o:Option Addr} {K:Int→af→Prop} (a:K 5 h):HC PG tH [.pointer o,.pointer (pA y.b)] [.c (.int .i64)] K h:=by
 refine Dm _ _ ?_;unfold ya cz gO dZ jQ;have d:=w.xc f;refine⟨_,rfl,y.fz,vc d 6,?_⟩;rw[b];exact aA.2 a
theorem PY(w:Ws (SW c g) h pb cb cap ids kk x n es)(f:g.xs[i]? =some y) (b:y.fz=true) {o:Option Addr} {K:Int→af→Prop} (a:K 5 h):HC PG xJ [.pointer o,.pointer (pA y.b)] [.c (.int .i64)] K h:=by
 refine Ii _ _ ?_;unfold B7 cz gO dZ jQ;have d:=w.xc f;refine⟨_,rfl,y.fz,vc d 6,?_⟩;rw[b];exact aA.2 a
theorem PX(w:Ws (SW c g) h pb cb cap ids kk x n es)(v:g.xs[i]? =some y) (C:y.fz=false) {t j:Int} {a:List Int} (q:g.is[y.k]? =some t) (p:g.lv[y.k]? =some true) (hi:g.ids++ [t]=j::a) (G:g.ids.length≤999∧g.lv.length≤1000∧g.is.length≤1000) {K:Int→af→Prop}
  (D:∀h' s1 s2 s3,Ws (SW c {g with s1:=s1,s2:=s2,s3:=s3,ids:=a,lv:=g.lv.set y.k false++ [true],is:=g.is++ [j],xs:=g.xs.set i {y with k:=g.is.length}}) h' pb cb cap ids kk x n es→Mv (Un (AL (SW c g)) cb es) h (Un (AL (SW c {g with s1:=s1,s2:=s2,s3:=s3,ids:=a,lv:=g.lv.set y.k false++ [true],is:=g.is++ [j],xs:=g.xs.set i {y with k:=g.is.length}})) cb es) h'→K 0 h'):
  HC PG xJ [.pointer (pA c.rb),.pointer (pA y.b)] [.c (.int .i64)] K h:=by
 refine Ii _ _ ?_;unfold B7 cz gO dZ jQ;have s:=w.xc v;refine⟨_,rfl,y.fz,vc s 6,?_⟩;rw[C];refine aj.2 ⟨_,rfl,_,vc s 5,Kp w q p (by omega) fun F s1 z A=>?_⟩
 refine Hi z hi (by simp only[ad,aF,cQ];omega) fun E s1 s2 s3 u B=>?_
 have b:({g with s1:=s1,s2:=s2,s3:=s3,ids:=a,lv:=g.lv.set y.k false++ [true],is:=g.is++ [j]}:WG).xs[i]? =some y:=v;refine⟨_,rfl,kU (u.xc b) (i:=5) (by simp) rfl fun m o f=>?_⟩
 have d:=u.xset b (y':={y with k:=g.is.length}) f rfl o;exact D m s1 s2 s3 d.1 ((A.tr B).tr d.2)
theorem LU(w:Ws (SW c g) h pb cb cap ids kk x n es)(hi:g.ids= []){K:Int×Int→af→Prop}(d:K (0,6) h):HC PG uh [.pointer (pA c.rb)] [.c (.int .i64),.c (.int .i64)] K h:=by
 refine Ik _ ?_;unfold B9 bH cS cz aK;have f:h[c.rb]? =some (.cells (M2 c.N g.s1 g.s2 g.s3).toArray gb (0,0)):=w.own.get (i:=1) rfl;have o1:OwnS i1 1 gJ (sb g.s1) h g.s1 g.ids:=w.own.get (i:=6) rfl;have a:=o1.len;rw[hi,bL]at a;refine⟨_,rfl,g.s1,vc f 1,CondP.intro (fun _=>d) fun b=>?_⟩
 rw[a]at b;exact absurd b (by simp)
theorem Jh(w:Ws (SW c g) h pb cb cap ids kk x n es)(hi:g.ids= [])(r:Rt){K:Option Addr×Int→af→Prop}(a:∀h',Upd No h h'→K (none,6) h'):HC PG u0 [.pointer (pA c.rb),XS r] [.c .ptr,.c (.int .i64)] K h:=by
 refine FB _ r ?_;unfold zF aq bD dR FX Zf;exact aN fun b b1 k1=>LU (w.up0 k1) hi (aA.2 (a b k1))
theorem NI(w:Ws (SW c g) h pb cb cap ids kk x n es){j:Int}{a:List Int}(hi:g.ids=j::a)(q:g.ids.length≤1000∧g.lv.length≤1000∧g.is.length≤1000)(r:Rt){K:Option Addr×Int→af→Prop}
  (u:∀h' s1 s2 s3 b,Ws (SW c {g with s1:=s1,s2:=s2,s3:=s3,ids:=a,lv:=g.lv++ [true],is:=g.is++ [j],xs:=g.xs++ [⟨b,g.is.length,r,false⟩]}) h' pb cb cap ids kk x n es→Mv (Un (AL (SW c g)) cb es) h (Un (AL (SW c {g with s1:=s1,s2:=s2,s3:=s3,ids:=a,lv:=g.lv++ [true],is:=g.is++ [j],xs:=g.xs++ [⟨b,g.is.length,r,false⟩]})) cb es) h'→K (pA b,0) h'):
  HC PG u0 [.pointer (pA c.rb),XS r] [.c .ptr,.c (.int .i64)] K h:=by
 refine FB _ r ?_;unfold zF aq bD dR FX Zf;refine aN fun z b1 k1=>Hi (w.up0 k1) hi q fun d s1 s2 s3 o k=>aj.2 ?_
 have b3:=k.get b1 (w.wo.w0 (ao _));refine⟨_,vc b3 0,_,vc b3 1,_,vc b3 2,_,vc b3 3,r.2.2.2.2,vc b3 4,aN fun p i s=>?_⟩
 have v:=aL i;have f:=o.push (s':=ym d.size (xL r g.is.length false) lR) s i fun y m=>by have m:y=d.size:=m;omega
 have e:SW c {g with s1:=s1,s2:=s2,s3:=s3,ids:=a,lv:=g.lv++ [true],is:=g.is++ [j]}++ [ym d.size (xL r g.is.length false) lR]=SW c {g with s1:=s1,s2:=s2,s3:=s3,ids:=a,lv:=g.lv++ [true],is:=g.is++ [j],xs:=g.xs++ [⟨d.size,g.is.length,r,false⟩]}:=by
  simp only[SW,List.cons_append,bU,List.map_cons,iM]
 rw[e]at f;exact u p s1 s2 s3 d.size f.1 (((Mv.of0 k1).tr k).tr f.2)
end
end Go.Proofs
namespace Go.Proofs
open Go Go.Lift
section
variable {c:WC} {g:WG} {h:af} {pb cb cap n:Nat} {ids:List Int} {kk:Int} {x:Hs} {es:List Ed}
abbrev Xz(c:WC)(g:WG):List Value:=aak g.sl g.sm g.se g.sx (pA c.pb) (pA c.rb)
theorem Ws.cw(w:Ws (SW c g) h pb cb cap ids kk x n es):h[c.wb]? =some (.cells (Xz c g).toArray gB (0,0)):=w.own.get (i:=0) rfl
set_option maxHeartbeats 1000000 in
theorem Yk(w:Ws (SW c g) h pb cb cap ids kk x n es)(t:Tr)(r:Rt)(hn:g.lt.length≤1000∧g.lr.length≤1000){K:Unit→af→Prop}
  (hk:∀h' sl sm,Ws (SW c {g with sl:=sl,sm:=sm,lt:=g.lt++ [t],lr:=g.lr++ [r]}) h' pb cb cap ids kk x n es→Mv (Un (AL (SW c g)) cb es) h (Un (AL (SW c {g with sl:=sl,sm:=sm,lt:=g.lt++ [t],lr:=g.lr++ [r]})) cb es) h'→K () h'):
  HC PG jK [.pointer (pA c.wb),Jb t,XS r] [] K h:=by
 refine EP _ t r ?_;unfold xj aq bD aQ uO rF dR cz GA FX Cm GK aK;refine aN fun h1 b1 k1=>aN fun h2 b2 k2=>?_
 have j:=k1.tr k2;have w2:=w.up0 j;have c1:=k2.get0 b1;have cw:=w2.cw;have fin:∀{L:af} {sl sm:SliceV},Ws (((SW c g).set 2 (ju lD 6 bm sl (g.lt++ [t]))).set 3 (ju sB 5 cq sm (g.lr++ [r]))) L pb cb cap ids kk x n es→Mv (Un (AL (SW c g)) cb es) h (Un (AL (((SW c g).set 2 (ju lD 6 bm sl (g.lt++ [t]))).set 3 (ju sB 5 cq sm (g.lr++ [r])))) cb es) L→
   ∃a26:Addr,pA c.wb=some a26∧(Wr L (adr a26 0)∧At (hset L (adr a26 0) (.slice sl.a sl.len sl.cap)) fun X=>∃a28:Addr,pA c.wb=some a28∧(Wr X (adr a28 1)∧At (hset X (adr a28 1) (.slice sm.a sm.len sm.cap)) fun h29=>K () h29)):=by
  intro L sl sm wC mC;have cC:L[c.wb]? =some (.cells (Xz c g).toArray gB (0,0)):=wC.own.get (i:=0) rfl;refine⟨_,rfl,kU cC (i:=0) (by simp) rfl fun S b21 u21=>⟨_,rfl,kU b21 (i:=1) (by simp) rfl fun h23 b23 u23=>?_⟩⟩
  have r23:=wC.cell (i:=0) (cs':=aak sl sm g.se g.sx (pA c.pb) (pA c.rb)) rfl (u21.tr u23) b23;exact hk h23 sl sm r23.1 (mC.tr r23.2)
 have E:∀{s y},s∈SW c g→s.T y→y<h.size:=fun hs hy=>w.own.lt _ hs _ hy
 have z1:=aL b1;have z2:=aL b2;have s1:=k1.size;refine⟨_,rfl,g.sl,vc cw 0,_,vc c1 0,_,vc c1 1,_,vc c1 2,_,vc c1 3,_,vc c1 4,_,vc c1 5,_,rfl,g.sm,vc cw 1,_,vc b2 0,_,vc b2 1,_,vc b2 2,_,vc b2 3,r.2.2.2.2,vc b2 4,?_,?_⟩
 ·refine aN fun h18 F m=>?_
  have k:=w2.up0 m;have a:=m.get0 b2;have u:=k.cw;have z18:=aL F;refine⟨⟨vc a 0,vc a 1,vc a 2,vc a 3,vc a 4⟩,vc u 1,vc u 0,?_,?_⟩
  ·refine lA (f:=lD) (t:=t) (k.own.get (i:=2) rfl) F rfl rfl ⟨by omega,by omega⟩ (by omega) fun sl S o21 V T=>?_
   have B:=k.slice (i:=2) (xs:=g.lt) rfl V o21 T;have z:S[c.wb]? =some (.cells (Xz c g).toArray gB (0,0)):=B.1.own.get (i:=0) rfl;have d:=V.get a fun P=>by have:=E (aE (i:=2) rfl) P;omega
   refine⟨⟨vc d 0,vc d 1,vc d 2,vc d 3,vc d 4⟩,vc z 1,aN fun h22 b22 C=>?_⟩
   have Y:=B.1.up0 C;refine⟨vc (C.get0 z) 1,lA (f:=sB) (t:=r) (Y.own.get (i:=3) rfl) b22 rfl rfl ⟨by omega,by omega⟩ (by omega) fun sm h25 o25 k25 hs25=>?_⟩
   have R:=Y.slice (i:=3) (xs:=g.lr) rfl k25 o25 hs25;exact fin R.1 ((((Mv.of0 (j.tr m)).tr B.2).up0 C).tr R.2)
  ·refine aN fun h30 b30 I=>?_
   have G:=k.up0 I;have v:=G.cw;refine⟨vc v 1,vc v 0,lA (f:=lD) (t:=t) (G.own.get (i:=2) rfl) (I.get0 F) rfl rfl ⟨by omega,by omega⟩ (by omega) fun sl h33 o33 k33 Z=>?_⟩
   have p:=G.slice (i:=2) (xs:=g.lt) rfl k33 o33 Z;have Q:h33[c.wb]? =some (.cells (Xz c g).toArray gB (0,0)):=p.1.own.get (i:=0) rfl;have b33:=k33.get b30 fun P=>by have:=E (aE (i:=2) rfl) P;omega
   refine⟨vc Q 1,lA (f:=sB) (t:=r) (p.1.own.get (i:=3) rfl) b33 rfl rfl ⟨by omega,by omega⟩ (by omega) fun sm h36 o36 k36 W=>?_⟩
   have r36:=p.1.slice (i:=3) (xs:=g.lr) rfl k36 o36 W;exact fin r36.1 (((Mv.of0 ((j.tr m).tr I)).tr p.2).tr r36.2)
 ·refine aN fun h41 O J=>?_
  have w41:=w2.up0 J;have A:=w41.cw;have b:=J.get0 c1;have z41:=aL O;refine⟨vc A 1,⟨vc b 0,vc b 1,vc b 2,vc b 3,vc b 4,vc b 5⟩,vc A 0,aN fun h42 b42 H=>?_⟩
  have D:=w41.up0 H;have q:=D.cw;refine⟨vc q 1,vc q 0,lA (f:=lD) (t:=t) (D.own.get (i:=2) rfl) b42 rfl rfl ⟨by omega,by omega⟩ (by omega) fun sl h45 o45 k45 N=>?_⟩
  have o:=D.slice (i:=2) (xs:=g.lt) rfl k45 o45 N;have M:h45[c.wb]? =some (.cells (Xz c g).toArray gB (0,0)):=o.1.own.get (i:=0) rfl;have b45:=k45.get (H.get0 O) fun P=>by have:=E (aE (i:=2) rfl) P;omega
  refine⟨vc M 1,lA (f:=sB) (t:=r) (o.1.own.get (i:=3) rfl) b45 rfl rfl ⟨by omega,by omega⟩ (by omega) fun sm h48 o48 k48 hs48=>?_⟩
  have r48:=o.1.slice (i:=3) (xs:=g.lr) rfl k48 o48 hs48;exact fin r48.1 (((Mv.of0 ((j.tr J).tr H)).tr o.2).tr r48.2)
end
def XOk(U:Nat→Prop)(h:af)(kk:Int)(x:Hs)(g:WG)(e:Ed)(y:Xd):Prop:=y.fz=(!e.lv)∧RefIs U h kk x y.ru e.lu∧g.is[y.k]? =some e.ti∧g.lv[y.k]? =some e.lv
structure Wd(c:WC)(n:Nat)(h0 h:af)(g:WG)(zs:List Vr)(es:List Ed):Prop where
 ws:Ws (SW c g) h c.pb c.cb c.cap g.ids c.kk c.x n es
 el:g.lt=zs.map (·.1)
 er:g.lr=zs.map (·.2.1)
 ee:g.le=es.map fun e=>pA e.eb
 ex:g.lx=g.xs.map fun y=>pA y.b
 lx:g.xs.length=es.length
 xw:∀(i:Nat) (e:Ed) (y:Xd),es[i]? =some e→g.xs[i]? =some y→XOk (c.U (SW c g) es) h c.kk c.x g e y
 xk:∀(i j:Nat) (a b:Xd),g.xs[i]? =some a→g.xs[j]? =some b→i≠j→a.k≠b.k
 zw:∀z∈zs,VrW (c.U (SW c g) es) h c.kk c.x n z
 sz:0<zs.length∧zs.length≤n+1∧es.length≤n∧g.is.length≤n∧g.lv.length=g.is.length∧c.cap≤4∧n≤100
 mv:Mv No h0 (c.U (SW c g) es) h
theorem VrW.mv{U U':Nat→Prop}{h a:af}{kk:Int}{x:Hs}{n:Nat}{z:Vr}(v:VrW U h kk x n z)(m:Mv U h U' a):VrW U' a kk x n z:=⟨v.1.mv m,v.2.1.mv m,v.2.2⟩
theorem XOk.mv{U U':Nat→Prop}{h b:af}{kk:Int}{x:Hs}{g a:WG}{e:Ed}{y:Xd}(o:XOk U h kk x g e y)(m:Mv U h U' b)(d:a.is=g.is)(c:a.lv=g.lv):XOk U' b kk x a e y:=⟨o.1,o.2.1.mv m,d▸o.2.2.1,c▸o.2.2.2⟩
section
variable {c:WC} {n:Nat} {h0 h h':af} {g:WG} {zs:List Vr} {es:List Ed}
theorem Wd.up0(w:Wd c n h0 h g zs es)(k:Upd No h h'):Wd c n h0 h' g zs es:=
 ⟨w.ws.up0 k,w.el,w.er,w.ee,w.ex,w.lx,fun i e y a b=>(w.xw i e y a b).mv (.of0 k) rfl rfl,w.xk,fun z hz=>(w.zw z hz).mv (.of0 k),w.sz,w.mv.up0 k⟩
theorem Wd.mono(w:Wd c n h0 h g zs es){m:Nat}(hm:n≤m)(a:m≤100):Wd c m h0 h g zs es:=
 ⟨w.ws.mono hm,w.el,w.er,w.ee,w.ex,w.lx,w.xw,w.xk,fun z hz=>(w.zw z hz).mono hm,by have:=w.sz;omega,w.mv⟩
theorem Wd.keep(w:Wd c n h0 h g zs es)(d:zs.length≤n){z:Vr}(hz:VrW (c.U (SW c g) es) h c.kk c.x n z){sl sm:SliceV}(r:Ws (SW c {g with sl:=sl,sm:=sm,lt:=g.lt++ [z.1],lr:=g.lr++ [z.2.1]}) h' c.pb c.cb c.cap g.ids c.kk c.x n es)(m:Mv (c.U (SW c g) es) h (c.U (SW c {g with sl:=sl,sm:=sm,lt:=g.lt++ [z.1],lr:=g.lr++ [z.2.1]}) es) h'):
  Wd c n h0 h' {g with sl:=sl,sm:=sm,lt:=g.lt++ [z.1],lr:=g.lr++ [z.2.1]} (zs++ [z]) es:=by
 refine⟨r,by rw[bU,←w.el];rfl,by rw[bU,←w.er];rfl,w.ee,w.ex,w.lx,fun i e y b a=>(w.xw i e y b a).mv m rfl rfl,w.xk,fun y a=>?_,?_,w.mv.tr m⟩
 ·rcases bM.1 a with a|a
  ·exact(w.zw y a).mv m
  ·rw[au.1 a];exact hz.mv m
 ·have:=w.sz
  simp only[ad,aF];omega
end
end Go.Proofs
namespace Go.Proofs
open Go Go.Lift
abbrev Xl:=Int×Int×Int×ByteArray×ByteArray×Int
abbrev abf(a:Xl):Value:=.agg #[.int .u8 a.1,.int .u8 a.2.1,.int .u8 a.2.2.1,.string a.2.2.2.1,.string a.2.2.2.2.1,.int .u16 a.2.2.2.2.2]
def UD(a:Xl):Prop:=(0≤a.1∧a.1≤255)∧(0≤a.2.1∧a.2.1≤255)∧(0≤a.2.2.1∧a.2.2.1≤255)∧(0≤a.2.2.2.2.2∧a.2.2.2.2.2≤65535)
theorem U8{v:Int}{n:Nat}(b:0≤v)(c:v≤65535)(a:0<n):∃k:Nat,bE (IntKind.wrap .i64 v) (n:Int)=(k:Int)∧k<n:=by
 refine⟨(v.toNat%n),?_,Nat.mod_lt _ a⟩;rw[jj (by omega),Int.tmod_eq_emod_of_nonneg b];conv=>lhs;rw[show v=((v.toNat:Nat):Int) by omega]
 rfl
section
variable {c:WC} {n:Nat} {h0 h h':af} {g:WG} {zs:List Vr} {es:List Ed}
theorem Wd.rows(w:Wd c n h0 h g zs es):g.sl.len=zs.length∧g.sm.len=zs.length∧g.se.len=es.length∧g.sx.len=es.length∧g.s1.len=g.ids.length∧g.s2.len=g.lv.length∧g.s3.len=g.is.length:=by
 have a:g.sl.len=g.lt.length:=(w.ws.own.get (i:=2) rfl:OwnS lD 6 bm (sb g.sl) h g.sl g.lt).len;have b:g.sm.len=g.lr.length:=(w.ws.own.get (i:=3) rfl:OwnS sB 5 cq (sb g.sm) h g.sm g.lr).len;have d:g.se.len=g.le.length:=(w.ws.own.get (i:=4) rfl:OwnS p1 1 fS (sb g.se) h g.se g.le).len;have e:g.sx.len=g.lx.length:=(w.ws.own.get (i:=5) rfl:OwnS p1 1 gN (sb g.sx) h g.sx g.lx).len
 rw[w.el,bF]at a;rw[w.er,bF]at b;rw[w.ee,bF]at d;rw[w.ex,bF,w.lx]at e;exact⟨a,b,d,e,(w.ws.own.get (i:=6) rfl:OwnS i1 1 gJ (sb g.s1) h g.s1 g.ids).len,(w.ws.own.get (i:=7) rfl:OwnS Xu 1 j7 (sb g.s2) h g.s2 g.lv).len,(w.ws.own.get (i:=8) rfl:OwnS i1 1 gJ (sb g.s3) h g.s3 g.is).len⟩
theorem Wd.t(w:Wd c n h0 h g zs es){k:Nat}{z:Vr}(hz:zs[k]? =some z):∃a,g.sl.a=some a∧∀j v,(lD z.1)[j]? =some v→aR h (adr (adr a (k*6)) j)=some v:=by
 have o:OwnS lD 6 bm (sb g.sl) h g.sl g.lt:=w.ws.own.get (i:=2) rfl;obtain⟨a,d,_,b⟩:=(o.sl (W:=No) fun _ _ _ h=>h).at (i:=k) (x:=z.1) (by rw[w.el,eZ,hz];rfl)
 exact⟨a,d,b⟩
theorem Wd.r(w:Wd c n h0 h g zs es){k:Nat}{z:Vr}(hz:zs[k]? =some z):∃a,g.sm.a=some a∧∀j v,(sB z.2.1)[j]? =some v→aR h (adr (adr a (k*5)) j)=some v:=by
 have o:OwnS sB 5 cq (sb g.sm) h g.sm g.lr:=w.ws.own.get (i:=3) rfl;obtain⟨a,d,_,b⟩:=(o.sl (W:=No) fun _ _ _ h=>h).at (i:=k) (x:=z.2.1) (by rw[w.er,eZ,hz];rfl)
 exact⟨a,d,b⟩
theorem Wd.e(w:Wd c n h0 h g zs es){k:Nat}{e:Ed}(b:es[k]? =some e):∃a,g.se.a=some a∧aR h (adr a (k*1))=some (.pointer (pA e.eb)):=by
 have o:OwnS p1 1 fS (sb g.se) h g.se g.le:=w.ws.own.get (i:=4) rfl;obtain⟨a,f,_,d⟩:=(o.sl (W:=No) fun _ _ _ h=>h).at0 (i:=k) (x:=pA e.eb) (by rw[w.ee,eZ,b];rfl)
 exact⟨a,f,d⟩
theorem Wd.x(w:Wd c n h0 h g zs es){k:Nat}{y:Xd}(f:g.xs[k]? =some y):∃a,g.sx.a=some a∧aR h (adr a (k*1))=some (.pointer (pA y.b)):=by
 have o:OwnS p1 1 gN (sb g.sx) h g.sx g.lx:=w.ws.own.get (i:=5) rfl;obtain⟨a,b,_,d⟩:=(o.sl (W:=No) fun _ _ _ h=>h).at0 (i:=k) (x:=pA y.b) (by rw[w.ex,eZ,f];rfl)
 exact⟨a,b,d⟩
theorem Wd.more(w:Wd c n h0 h g zs es)(I:n+1≤100){z:Vr}(hz:z∈zs){j:Int}{d:List Int}{eb tb b:Nat}{s1 s2 s3 se sx:SliceV}
  (r:Ws (SW c {g with s1:=s1,s2:=s2,s3:=s3,ids:=d,lv:=g.lv++ [true],is:=g.is++ [j],xs:=g.xs++ [⟨b,g.is.length,z.2.1,false⟩],se:=se,sx:=sx,le:=g.le++ [pA eb],lx:=g.lx++ [pA b]}) h' c.pb c.cb c.cap d c.kk c.x n (es++ [⟨eb,tb,j,true,z.1,z.2.2,No⟩]))
  (m:Mv (c.U (SW c g) es) h (c.U (SW c {g with s1:=s1,s2:=s2,s3:=s3,ids:=d,lv:=g.lv++ [true],is:=g.is++ [j],xs:=g.xs++ [⟨b,g.is.length,z.2.1,false⟩],se:=se,sx:=sx,le:=g.le++ [pA eb],lx:=g.lx++ [pA b]}) (es++ [⟨eb,tb,j,true,z.1,z.2.2,No⟩])) h'):
  Wd c (n+1) h0 h' {g with s1:=s1,s2:=s2,s3:=s3,ids:=d,lv:=g.lv++ [true],is:=g.is++ [j],xs:=g.xs++ [⟨b,g.is.length,z.2.1,false⟩],se:=se,sx:=sx,le:=g.le++ [pA eb],lx:=g.lx++ [pA b]} zs (es++ [⟨eb,tb,j,true,z.1,z.2.2,No⟩]):=by
 have sz:=w.sz;have f:∀{α:Type} {l:List α} {a:α} {i:Nat} {v:α},(l++ [a])[i]? =some v→(l[i]? =some v∧i<l.length)∨(i=l.length∧v=a):=fun{α l a i v} hv=>by
  rw[nI]at hv;split at hv
  ·rename_i o;exact .inl ⟨hv,o⟩
  ·have:i-l.length=0:=by have:=(aG.1 hv).1;simp only[aF]at this;omega
   rw[this]at hv;cases hv;exact .inr ⟨by omega,rfl⟩
 have kl:∀{i:Nat} {y:Xd},g.xs[i]? =some y→y.k<g.is.length:=fun{i y} k=>by
  have o:=(aG.1 k).1;rw[w.lx]at o;exact(aG.1 (w.xw i es[i] y (ag o) k).2.2.1).1
 refine⟨r.mono (gI _),w.el,w.er,?_,?_,?_,fun i e y u k=>?_,fun i E a b q p A=>?_,fun z hz=>((w.zw z hz).mv m).mono (gI _),?_,w.mv.tr m⟩
 ·rw[bU,←w.ee];rfl
 ·show g.lx++ [pA b]=(g.xs++ [_]).map _
  rw[bU,←w.ex];rfl
 ·show(g.xs++ [_]).length=(es++ [_]).length
  rw[ad,ad,w.lx];rfl
 ·rcases f u with⟨u,o⟩|⟨F,rfl⟩<;>rcases f k with⟨k,s⟩|⟨B,rfl⟩
  ·obtain⟨G,C,D,H⟩:=w.xw i e y u k
   refine⟨G,C.mv m,?_,?_⟩
   ·show(g.is++ [j])[y.k]? =_
    rw[bK (kl k)];exact D
   ·show(g.lv++ [true])[y.k]? =_
    rw[bK (by have:=kl k;omega)];exact H
  ·rw[w.lx]at B;omega
  ·rw[w.lx]at s;omega
  ·refine⟨rfl,(w.zw z hz).2.1.mv m,?_,?_⟩
   ·show(g.is++ [j])[g.is.length]? =_
    simp
   ·show(g.lv++ [true])[g.is.length]? =_
    rw[←sz.2.2.2.2.1];simp
 ·rcases f q with⟨q,_⟩|⟨F,rfl⟩<;>rcases f p with⟨p,_⟩|⟨B,rfl⟩
  ·exact w.xk i E a b q p A
  ·have:=kl q;show a.k≠g.is.length;omega
  ·have:=kl p;show g.is.length≠b.k;omega
  ·omega
 ·simp only[ad,aF]
  omega
set_option maxHeartbeats 2000000 in
theorem SS(w:Wd c n h0 h g zs es)(hn:n+1≤100)(a:Xl)(ha:UD a){K:Bool→af→Prop}(hk:∀h' g' es',es.length≤es'.length→(g.ids≠[]→0<es'.length)→(∀e∈es',e∈es∨e.lv=true)→Wd c (n+1) h0 h' g' zs es'→K true h'):HC PG qn [.pointer (pA c.wb),abf a] [.c .bool] K h:=by
 refine Dt _ a ?_;unfold vK bH cS oy yM cz eH Lw aK abm;have sz:=w.sz;obtain⟨l1,l2,l3,l4,l5,l6,l7⟩:=w.rows;obtain⟨k,ek,hkl⟩:=U8 ha.2.2.1.1 (by have:=ha.2.2.1.2;omega) sz.1;refine aN fun h1 b1 k1=>?_
 have P:=w.up0 k1;have cw:=P.ws.cw;refine⟨_,vc b1 2,_,rfl,g.sl,vc cw 0,?_⟩;rw[l1,ek];have hz:zs[k]? =some zs[k]:=ag hkl;have Q:=List.getElem_mem hkl;generalize zs[k]=z at hz Q;obtain⟨at_,hat,s⟩:=P.t hz;refine⟨by omega,_,rfl,_,vc cw 4,_,rfl,g.sl,vc cw 0,⟨by omega,by omega⟩,at_,hat,_,s 0 _ rfl,_,s 1 _ rfl,_,s 2 _ rfl,_,s 3 _ rfl,_,s 4 _ rfl,_,s 5 _ rfl,?_⟩
 have vz:=P.zw z Q;cases hi:g.ids with
 |nil=>
  have pl:=P.ws.wo.pl;rw[hi]at pl;refine Mi pl z.1 fun Z k17=>?_
  have p:=P.up0 k17;have m:=p.ws.cw;obtain⟨ar,N,d⟩:=p.r hz;refine⟨vc m 0,_,rfl,_,vc m 5,_,rfl,g.sm,vc m 1,⟨by omega,by omega⟩,ar,N,_,d 0 _ rfl,_,d 1 _ rfl,_,d 2 _ rfl,_,d 3 _ rfl,z.2.1.2.2.2.2,d 4 _ rfl,?_⟩
  refine Jh p.ws hi z.2.1 fun h29 Y=>⟨vc (p.up0 Y).ws.cw 1,Join.plain (aj.2 (aj.2 (aj.2 ?_)))⟩
  exact hk _ g es (ao _) (fun h=>absurd hi h) (fun e he=>.inl he) ((p.up0 Y).mono (gI _) hn)
 |cons j ids2=>
  refine Xy P.ws.wo hi vz.1 vz.2.2.1 vz.2.2.2.1 vz.2.2.2.2 fun Z eb tb p m17=>?_
  have v:=P.ws.ed p m17;have m:=v.cw;have o17:OwnS sB 5 cq (sb g.sm) Z g.sm g.lr:=v.own.get (i:=3) rfl;obtain⟨ar,N,_,d⟩:=(o17.sl (W:=No) fun _ _ _ h=>h).at (i:=k) (x:=z.2.1) (by rw[w.er,eZ,hz];rfl)
  refine⟨vc m 0,_,rfl,_,vc m 5,_,rfl,g.sm,vc m 1,⟨by omega,by omega⟩,ar,N,_,d 0 _ rfl,_,d 1 _ rfl,_,d 2 _ rfl,_,d 3 _ rfl,z.2.1.2.2.2.2,d 4 _ rfl,?_⟩
  have hids:g.ids.length≤4:=by have:=w.ws.wo.rm;omega
  refine NI v hi (by omega) z.2.1 fun h29 s1 s2 s3 b o m29=>?_
  have q:=o.cw;refine⟨vc q 1,Join.plain (aj.2 (aj.2 (aA.2 ?_)))⟩;generalize eg:({g with s1:=s1,s2:=s2,s3:=s3,ids:=ids2,lv:=g.lv++ [true],is:=g.is++ [j],xs:=g.xs++ [⟨b,g.is.length,z.2.1,false⟩]}:WG)=g1 at o m29 q;have A:g1.se=g.se∧g1.sx=g.sx∧g1.le=g.le∧g1.lx=g.lx:=by rw[←eg];exact⟨rfl,rfl,rfl,rfl⟩
  have X:g.le.length+1≤1000∧g.lx.length+1≤1000:=by
   rw[w.ee,w.ex,bF,bF,w.lx];omega
  have J:=((Mv.of0 k1).tr m17.1).tr m29;have fin:∀{V:af} {se sx:SliceV},Ws (((SW c g1).set 4 (ju p1 1 fS se (g1.le++ [pA eb]))).set 5 (ju p1 1 gN sx (g1.lx++ [pA b]))) V c.pb c.cb c.cap ids2 c.kk c.x n (es++ [⟨eb,tb,j,true,z.1,z.2.2,No⟩])→Mv (c.U (SW c g1) (es++ [⟨eb,tb,j,true,z.1,z.2.2,No⟩])) h29 (c.U (((SW c g1).set 4 (ju p1 1 fS se (g1.le++ [pA eb]))).set 5 (ju p1 1 gN sx (g1.lx++ [pA b]))) (es++ [⟨eb,tb,j,true,z.1,z.2.2,No⟩])) V→
    ∃a45:Addr,pA c.wb=some a45∧(Wr V (adr a45 2)∧At (hset V (adr a45 2) (.slice se.a se.len se.cap)) fun h46=>∃a47:Addr,pA c.wb=some a47∧(Wr h46 (adr a47 3)∧At (hset h46 (adr a47 3) (.slice sx.a sx.len sx.cap)) fun h48=>K true h48)):=by
   intro V se sx wC mC;have cC:V[c.wb]? =some (.cells (Xz c g1).toArray gB (0,0)):=wC.own.get (i:=0) rfl;refine⟨_,rfl,kU cC (i:=2) (by simp) rfl fun h21 b21 u21=>⟨_,rfl,kU b21 (i:=3) (by simp) rfl fun h23 b23 u23=>?_⟩⟩
   have r23:=wC.cell (i:=0) (cs':=aak g1.sl g1.sm se sx (pA c.pb) (pA c.rb)) rfl (u21.tr u23) b23;have mm:=(J.tr mC).tr r23.2;have rr:=r23.1;subst eg;exact hk h23 _ _ (by simp) (fun _=>by simp) (fun e he=>(bM.1 he).imp id fun he=>by rw[au.1 he]) (w.more hn Q (s1:=s1) (s2:=s2) (s3:=s3) (se:=se) (sx:=sx) rr mm)
  have e1:g1.se.a=g.se.a∧g1.se.len=g.se.len∧g1.se.cap=g.se.cap∧g1.sx.a=g.sx.a∧g1.sx.len=g.sx.len∧g1.sx.cap=g.sx.cap:=by rw[A.1,A.2.1];exact⟨rfl,rfl,rfl,rfl,rfl,rfl⟩
  have hlen1:g1.le.length+1≤1000∧g1.lx.length+1≤1000:=by rw[A.2.2.1,A.2.2.2];exact X
  refine⟨_,rfl,g1.se,vc q 2,_,rfl,g1.sx,vc q 3,?_,?_⟩
  ·refine aN fun h37 H I=>?_
   have u:=o.up0 I;have C:=u.cw;have z37:=aL H;refine⟨vc C 3,vc C 2,?_,?_⟩
   ·refine lA (f:=p1) (t:=pA eb) (u.own.get (i:=4) rfl) H rfl rfl ⟨by omega,by omega⟩ (by omega) fun se h40 o40 k40 hs40=>?_
    have L:=u.slice (i:=4) (xs:=g1.le) rfl k40 o40 hs40;have E:h40[c.wb]? =some (.cells (Xz c g1).toArray gB (0,0)):=L.1.own.get (i:=0) rfl;refine⟨vc E 3,aN fun h41 b41 R=>?_⟩
    have w41:=L.1.up0 R;refine⟨vc (R.get0 E) 3,lA (f:=p1) (t:=pA b) (w41.own.get (i:=5) rfl) b41 rfl rfl ⟨by omega,by omega⟩ (by omega) fun sx h44 o44 k44 hs44=>?_⟩
    have r44:=w41.slice (i:=5) (xs:=g1.lx) rfl k44 o44 hs44;exact fin r44.1 ((((Mv.of0 I).tr L.2).up0 R).tr r44.2)
   ·refine aN fun h49 b49 M=>?_
    have S:=u.up0 M;have D:=S.cw;have z49:=aL b49;refine⟨vc D 3,vc D 2,lA (f:=p1) (t:=pA eb) (S.own.get (i:=4) rfl) (M.get0 H) rfl rfl ⟨by omega,by omega⟩ (by omega) fun se h52 o52 k52 hs52=>?_⟩
    have B:=S.slice (i:=4) (xs:=g1.le) rfl k52 o52 hs52;have cw52:h52[c.wb]? =some (.cells (Xz c g1).toArray gB (0,0)):=B.1.own.get (i:=0) rfl;have b52:=k52.get b49 fun hb=>by have:=u.own.lt _ (aE (i:=4) rfl) _ hb;omega
    refine⟨vc cw52 3,lA (f:=p1) (t:=pA b) (B.1.own.get (i:=5) rfl) b52 rfl rfl ⟨by omega,by omega⟩ (by omega) fun sx h55 o55 k55 hs55=>?_⟩
    have r55:=B.1.slice (i:=5) (xs:=g1.lx) rfl k55 o55 hs55;exact fin r55.1 (((Mv.of0 (I.tr M)).tr B.2).tr r55.2)
  ·refine aN fun h60 b60 k60=>?_
   have w60:=o.up0 k60;have F:=w60.cw;have z60:=aL b60;refine⟨vc F 3,vc F 2,aN fun h61 b61 T=>?_⟩
   have O:=w60.up0 T;have G:=O.cw;refine⟨vc G 3,vc G 2,lA (f:=p1) (t:=pA eb) (O.own.get (i:=4) rfl) b61 rfl rfl ⟨by omega,by omega⟩ (by omega) fun se h64 o64 k64 hs64=>?_⟩
   have y:=O.slice (i:=4) (xs:=g1.le) rfl k64 o64 hs64;have cw64:h64[c.wb]? =some (.cells (Xz c g1).toArray gB (0,0)):=y.1.own.get (i:=0) rfl;have b64:=k64.get (T.get0 b60) fun hb=>by have:=o.own.lt _ (aE (i:=4) rfl) _ hb;omega
   refine⟨vc cw64 3,lA (f:=p1) (t:=pA b) (y.1.own.get (i:=5) rfl) b64 rfl rfl ⟨by omega,by omega⟩ (by omega) fun sx h67 o67 k67 hs67=>?_⟩
   have r67:=y.1.slice (i:=5) (xs:=g1.lx) rfl k67 o67 hs67;exact fin r67.1 (((Mv.of0 (k60.tr T)).tr y.2).tr r67.2)
end
end Go.Proofs
namespace Go.Proofs
open Go Go.Lift
def aaF(b o t:Option ByteArray)(p:Int):Option ByteArray×Bool:=if o=t∨t=b then(o,true)else if o=b then(t,true)else if p=1 then(o,false)else if p=2 then(t,false)else(b,false)
def tk(B O T:List Pr)(p:Int)(k:ByteArray):Option ByteArray×Bool:=aaF (look B k) (look O k) (look T k) p
end Go.Proofs
namespace Go.Proofs
open Go Go.Lift
end Go.Proofs
namespace Go.Proofs
open Go Go.Lift
end Go.Proofs
namespace Go.Proofs
open Go Go.Lift
theorem Vy{W:Nat→Prop}{h:af}{s:SliceV}{l:List Pr}(f:Sl fe 2 W h s l)(a:cA l)(b:Fit l)(c:l.length≤1000000)(k:ByteArray){K:ByteArray×Bool→af→Prop}
  (d:K ((look l k).getD ⟨#[]⟩,(look l k).isSome) h):HC PG wO [.slice s.a s.len s.cap,.string k] [.c .str,.c .bool] K h:=
 RP f a b c k fun v i g=>by rw[←Sa a i g];exact d
end Go.Proofs
namespace Go.Proofs
open Go Go.Lift
theorem TW{h:af}{eb pb tb:Nat}{tu:Tr}{ti:Int}(e:EdAt h eb pb tb tu)(k:TokAt h tb pb ti false){K:Tr×Int→af→Prop}(j:∀h',Upd No h h'→K (yF,5) h'):HC PG lz [.pointer (some ⟨eb,0,none⟩)] Po K h:=by
 refine wU _ ?_;unfold rl aq eX nv bD aQ uO rF cz Cm eH;refine aN fun m b1 k1=>Fs (e.upd k1 id) (k.upd k1 id) fun o f=>vY (t:=yF) fun n b d=>Join.plain (aj.2 ?_)
 refine⟨_,vc b 0,_,vc b 1,_,vc b 2,_,vc b 3,_,vc b 4,_,vc b 5,?_⟩;refine cW (c:=lD yF) (vs:=lD yF) ((f.tr d).get0 b1) rfl fun i a g=>?_
 exact⟨_,vc a 0,_,vc a 1,_,vc a 2,_,vc a 3,_,vc a 4,_,vc a 5,j i ((k1.tr (f.tr d)).own g (ao _))⟩
section
variable {c:WC} {n k:Nat} {h0 h h':af} {g:WG} {zs:List Vr} {es:List Ed} {e e':Ed} {y y':Xd}
theorem Wd.set(w:Wd c n h0 h g zs es)(V:n+1≤100)(J:es[k]? =some e) (s:g.xs[k]? =some y) {s1 s2 s3:SliceV} {ids' is':List Int} {lv':List Bool}
  (r:Ws (SW c {g with s1:=s1,s2:=s2,s3:=s3,ids:=ids',lv:=lv',is:=is',xs:=g.xs.set k y'}) h' c.pb c.cb c.cap ids' c.kk c.x (n+1) (es.set k e'))
  (m:Mv (c.U (SW c g) es) h (c.U (SW c {g with s1:=s1,s2:=s2,s3:=s3,ids:=ids',lv:=lv',is:=is',xs:=g.xs.set k y'}) (es.set k e')) h') (F:e'.eb=e.eb) (O:y'.b=y.b)
  (hx:XOk (c.U (SW c {g with s1:=s1,s2:=s2,s3:=s3,ids:=ids',lv:=lv',is:=is',xs:=g.xs.set k y'}) (es.set k e')) h' c.kk c.x {g with s1:=s1,s2:=s2,s3:=s3,ids:=ids',lv:=lv',is:=is',xs:=g.xs.set k y'} e' y')
  (G:is'.length≤n+1∧lv'.length=is'.length) (T:∀(i:Nat) (b:Xd),i≠k→g.xs[i]? =some b→is'[b.k]? =g.is[b.k]?∧lv'[b.k]? =g.lv[b.k]?) (S:y'.k=y.k∨g.is.length≤y'.k):
  Wd c (n+1) h0 h' {g with s1:=s1,s2:=s2,s3:=s3,ids:=ids',lv:=lv',is:=is',xs:=g.xs.set k y'} zs (es.set k e'):=by
 have C:k<es.length:=(aG.1 J).1;have A:k<g.xs.length:=(aG.1 s).1;have kl:∀{i:Nat} {y:Xd},g.xs[i]? =some y→y.k<g.is.length:=fun{i y} s=>by
  have I:=(aG.1 s).1;rw[w.lx]at I;exact(aG.1 (w.xw i es[i] y (ag I) s).2.2.1).1
 have same:∀{α β:Type} {f:α→β} {l:List α} {a b:α} {i:Nat},l[i]? =some a→f b=f a→(l.set i b).map f=l.map f:=fun{α β f l a b i} v B=>by
  refine List.ext_getElem? fun j=>?_
  rw[eZ,eZ,List.getElem?_set];split
  ·rename_i e;subst e
   rw[if_pos (aG.1 v).1,v];simp[B]
  ·rfl
 refine⟨r,w.el,w.er,?_,?_,?_,fun i R u o d=>?_,fun i j a b q E D=>?_,fun z hz=>((w.zw z hz).mv m).mono (gI _),?_,w.mv.tr m⟩
 ·rw[same J (by rw[F])];exact w.ee
 ·show g.lx=(g.xs.set k y').map _
  rw[same s (by rw[O])];exact w.ex
 ·show(g.xs.set k y').length=(es.set k e').length
  rw[cQ,cQ,w.lx]
 ·by_cases p:i=k
  ·subst p
   rw[f7 C]at o;have d:(g.xs.set i y')[i]? =some u:=d;rw[f7 A]at d;cases o;cases d;exact hx
  ·rw[fj (Ne.symm p)]at o
   have d:(g.xs.set k y')[i]? =some u:=d;rw[fj (Ne.symm p)]at d;obtain⟨L,P,Q,N⟩:=w.xw i R u o d;obtain⟨o1,o2⟩:=T i u p d;exact⟨L,P.mv m,by show is'[u.k]? =_;rw[o1];exact Q,by show lv'[u.k]? =_;rw[o2];exact N⟩
 ·have val:∀{j:Nat} {a:Xd},(g.xs.set k y')[j]? =some a→(j=k∧a=y')∨(j≠k∧g.xs[j]? =some a):=fun{j a} q=>by
   by_cases e:j=k
   ·subst e;rw[f7 A]at q;cases q;exact .inl ⟨rfl,rfl⟩
   ·rw[fj (Ne.symm e)]at q;exact .inr ⟨e,q⟩
  have one:∀{j:Nat} {a:Xd},j≠k→g.xs[j]? =some a→a.k≠y'.k:=fun{j a} M q=>by
   rcases S with h|h
   ·rw[h];exact w.xk j k a y q s M
   ·have:=kl q;omega
  rcases val q with⟨v,rfl⟩|⟨v,H⟩<;>rcases val E with⟨B,rfl⟩|⟨B,K⟩
  ·omega
  ·exact Ne.symm (one B K)
  ·exact one v H
  ·exact w.xk i j a b H K D
 ·have:=w.sz
  simp only[cQ];omega
theorem Wd.ru(w:Wd c n h0 h g zs es)(p:n+1≤100)(i:es[k]? =some e) (o:g.xs[k]? =some y) {a:Rt} (r:Ws (SW c {g with xs:=g.xs.set k {y with ru:=a}}) h' c.pb c.cb c.cap g.ids c.kk c.x (n+1) (es.set k e'))
  (m:Mv (c.U (SW c g) es) h (c.U (SW c {g with xs:=g.xs.set k {y with ru:=a}}) (es.set k e')) h') (f:e'.eb=e.eb) (d:e'.ti=e.ti) (b:e'.lv=e.lv) (j:RefIs (c.U (SW c {g with xs:=g.xs.set k {y with ru:=a}}) (es.set k e')) h' c.kk c.x a e'.lu):
  Wd c (n+1) h0 h' {g with xs:=g.xs.set k {y with ru:=a}} zs (es.set k e'):=by
 have x:=w.xw k e y i o;have sz:=w.sz;exact w.set p i o (s1:=g.s1) (s2:=g.s2) (s3:=g.s3) (ids':=g.ids) (is':=g.is) (lv':=g.lv) (y':={y with ru:=a}) r m f rfl ⟨by rw[b];exact x.1,j,by rw[d];exact x.2.2.1,by rw[b];exact x.2.2.2⟩ ⟨by omega,by omega⟩ (fun _ _ _ _=>⟨rfl,rfl⟩) (.inl rfl)
end
end Go.Proofs
