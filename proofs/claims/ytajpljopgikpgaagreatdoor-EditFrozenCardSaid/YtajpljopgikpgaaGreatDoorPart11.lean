/- A part of the proof that the named laws of this program answer true, whatever the input. -/
import Derived.Test.YtajpljopgikpgaaGreatDoorPart10
import Derived.Test.YtajpljopgikpgaaGreatDoorPart8
import Derived.Test.YtajpljopgikpgaaGreatDoorPart2
import Derived.Test.YtajpljopgikpgaaGreatDoorPart6
open ByteArray renaming size_extract→eE
open Int renaming toNat_natCast→aO,le_refl→qs,tmod→aZ
open List renaming length_singleton→aK,range→cQ,map_append→cR,mem_of_getElem?→az,getElem?_eq_some_iff→aF,getElem?_set_self→dR,getElem?_set_ne→eB,getElem?_of_mem→g8,getElem?_append→mo,mem_append→bW,mem_singleton→au,map_nil→mX,mem_cons→aA,length_cons→aV,length_nil→cB,length_append→af,getElem?_map→eu,length_set→dJ,length_map→c7,getElem?_eq_getElem→ag,getElem?_append_left→cq
open Nat renaming le_refl→ao,lt_of_lt_of_le→bP,zero_add→aL,le_succ→fY
namespace Go.Proofs
open Go Go.Lift
def sb(s:SliceV)(y:Nat):Prop:=s.cap≠0∧∃a,s.a=some a∧y=a.block
section
variable {α:Type} {f:α→List Value} {sz:Nat} {ty:TypeId} {M:Nat→Prop} {h:ad} {s so:SliceV} {xs out:List α}
theorem _root_.Go.Lift.OwnS.sub(o:OwnS f sz ty M h s xs):∀y,sb s y→M y∧y<h.size:=fun y ⟨hc,a,i,d⟩=>by
 rcases o.blk with k|⟨b,c,g,hm,j,_⟩
 ·exact absurd k hc
 ·rw[i]at g
  cases g;exact⟨d▸hm,d▸aH j⟩
theorem _root_.Go.Lift.OwnS.its(o:OwnS f sz ty M h s xs):OwnS f sz ty (sb s) h s xs:=by
 refine⟨o.len,o.ne,o.cap,?_⟩;by_cases hc:s.cap=0
 ·exact .inl hc
 ·rcases o.blk with g|⟨b,a,c,hm,d,i⟩
  ·exact absurd g hc
  ·exact .inr ⟨b,a,c,⟨hc,_,c,rfl⟩,d,i⟩
theorem uQ{a:Option Addr}{n:Nat}:∀y,¬sb ⟨a,n,0⟩ y:=fun _ h=>h.1 rfl
theorem _root_.Go.Lift.OwnS.one{x:α}{b:Nat}(a:∀x,(f x).length=sz∧0<sz)(c:h[b]? =some (.cells (f x).toArray ty (0,0))):OwnS f sz ty (sb ⟨some ⟨b,0,none⟩,1,1⟩) h ⟨some ⟨b,0,none⟩,1,1⟩ [x]:=
 ⟨rfl,a,ao _,.inr ⟨b,[],rfl,⟨by simp,_,rfl,rfl⟩,by simpa using c,by simp⟩⟩
theorem j6{a:Nat}{z:List Value}{t:α}{b:Nat}{K:SliceV→ad→Prop}(k:OwnS f sz ty (sb so) h so out)(o:h[b]? =some (.cells (f t).toArray ty (0,0))) (g:co (f t)=true) (hz:z.length=sz) (i:0<a∧a≤64) (m:out.length+1≤1000000)
  (n:∀s' c,OwnS f sz ty (sb s') c s' (out++ [t])→Upd (sb so) h c→(∀y,sb s' y→(sb so y∨h.size≤y)∧y<c.size)→K s' c):
  ∃xs,SRow h (some ⟨b,0,none⟩) (1*sz) xs∧AppP (some z) sz a ty so.a so.len so.cap 1 xs h K:=by
 refine⟨_,((OwnS.one k.ne o).sl (W:=No) fun _ _ _ h=>h).srow,?_⟩
 refine AppP.own (M:=fun y=>sb so y∨h.size≤y) (ys:= [t]) (k.more fun y j=>.inl j) rfl rfl (by simpa using g) hz i.1 ?_ (.inr (ao _)) fun s' c d p=>n s' c d.its (p.mono fun y j=>j) d.sub
 simp only[aK];calc (out.length+1)*a≤1000000*64:=Nat.mul_le_mul m i.2
  _≤140737488355328:=by omega
end
abbrev i1(n:Int):List Value:= [.int .i64 n]
abbrev SA(b:Bool):List Value:= [.bool b]
theorem Ko(n:Int):(i1 n).length=1∧0<1:=⟨rfl,by omega⟩
theorem RS(n:Bool):(SA n).length=1∧0<1:=⟨rfl,by omega⟩
abbrev JS(n:Int)(s1 s2 s3:SliceV):List Value:= [.int .i64 n,.slice s1.a s1.len s1.cap,.slice s2.a s2.len s2.cap,.slice s3.a s3.len s3.cap]
structure R4(h:ad)(rb:Nat)(s1 s2 s3:SliceV)(ids:List Int)(lv:List Bool)(is:List Int):Prop where
 bl:∃n,h[rb]? =some (.cells (JS n s1 s2 s3).toArray fO (0,0))
 o1:OwnS i1 1 gc (sb s1) h s1 ids
 o2:OwnS SA 1 jF (sb s2) h s2 lv
 o3:OwnS i1 1 gc (sb s3) h s3 is
theorem O4{n:Nat}(L:n≤1000){h:ad}{K:Option Addr→ad→Prop}(H:∀a s1,R4 a h.size s1 ⟨none,0,0⟩ ⟨none,0,0⟩ ((cQ n).map fun j=>((j:Nat):Int)+1) [] []→Upd No h a→(∀y,sb s1 y→h.size<y)→K (some ⟨h.size,0,none⟩) a):HC PG BR [.int .i64 n] [.c .ptr] K h:=by
 refine PQ _ ?_;unfold HJ aM cp;refine aJ fun Q b1 k1=>?_
 have R:=aH b1;refine LoopP.ghost (fun(g:Nat×SliceV) (t:Int) a=>t=(g.1:Int)+1∧g.1≤n∧a[h.size]? =some (.cells (JS n g.2 ⟨none,0,0⟩ ⟨none,0,0⟩).toArray fO (0,0))∧OwnS i1 1 gc (sb g.2) a g.2 ((cQ g.1).map fun j=>((j:Nat):Int)+1)∧Upd No h a∧∀y,sb g.2 y→h.size<y) (fun g=>n-g.1) (0,⟨none,0,0⟩) ⟨rfl,Nat.zero_le _,b1,OwnS.nil Ko,k1,fun y c=>absurd c (uQ y)⟩ ?_
 rintro I ⟨i,s⟩ t B ⟨rfl,hi,m,z,p,d⟩ D;simp only at hi m z p d⊢;refine aQ (fun v=>?_) fun G=>?_
 ·have v:i<n:=by omega
  refine Join.plain ⟨_,rfl,s,vc m 1,aJ fun P J o=>?_⟩
  have N:=p.size;have O:=aH m;refine j6 (f:=i1) (t:=(i:Int)+1) (b:=B.size) (z.upd o fun _ _ h=>h) J rfl rfl ⟨by omega,by omega⟩ (by simp;omega) fun s' a F k' w=>?_
  refine⟨_,rfl,lN (k'.get (o.get0 m) fun h=>by have:=d _ h;omega) (i:=1) (by simp) rfl fun E u k=>?_⟩
  rw[show IntKind.wrap .i64 ((i:Int)+1+1)=((i+1:Nat):Int)+1 by rw[oD (by omega)];omega]
  have M:=o.size;have C:∀y,sb s' y→h.size<y:=fun y c=>(w y c).1.elim (d y) fun h=>by omega
  refine D (i+1,s') _ _ ⟨rfl,by omega,u,?_,((p.tr o).trans k' fun y c=>.inr (by have:=d y c;omega)).own k (ao _),C⟩ (by show n-(i+1)<n-i;omega)
  have e:((cQ (i+1)).map fun j=>((j:Nat):Int)+1)=((cQ i).map fun j=>((j:Nat):Int)+1)++ [(i:Int)+1]:=by rw[List.range_succ,cR];rfl
  rw[e];exact F.upd k fun y c A=>by have:=C y c;have A:y=h.size:=A;omega
 ·have q:i=n:=by omega
  subst q;exact H B s ⟨⟨_,m⟩,z,OwnS.nil RS,OwnS.nil Ko⟩ p d
theorem xz{s:ByteArray}{m:Int}(hm:m≤5000){h:ad}{K:ByteArray→ad→Prop}(a:∀s' h',s'.size≤5030→(m≤0→s'=po s)→Upd No h h'→K s' h'):HC PG gN [.string s,.int .i64 m] [.c .str] K h:=by
 refine Fi s m ?_;unfold zu;have e:(if 30<(s.size:Int)then(30:Int)else(s.size:Int))=((min s.size 30:Nat):Int):=by split<;>omega
 rw[e];refine⟨⟨by omega,by omega⟩,?_⟩
 simp only[Bd];rw[aO];have z:(s.extract 0 (min s.size 30)).size≤30:=by rw[eE];omega
 refine aQ (fun f=>⟨⟨by omega,qs _,by omega,by omega⟩,?_⟩) fun _=>a _ _ (by omega) (fun _=>by unfold po;rfl) (Upd.refl _ _)
 refine P8 fun c b s3 g d=>⟨s3,d,by omega,a _ c (by rw[ByteArray.size_append];omega) (fun h=>by omega) b⟩
theorem uk{s:ByteArray}{h:ad}{K:ByteArray→ad→Prop}(a:K (po s) h):HC PG gN [.string s,.int .i64 0] [.c .str] K h:=by
 refine Fi s 0 ?_;unfold zu;have e:(if 30<(s.size:Int)then(30:Int)else(s.size:Int))=((min s.size 30:Nat):Int):=by split<;>omega
 rw[e];refine⟨⟨by omega,by omega⟩,?_⟩
 simp only[Bd];rw[aO];refine aj.2 ?_;unfold po at a;exact a
end Go.Proofs
namespace Go.Proofs
open Go Go.Lift
abbrev Vt(sl sm se sx:SliceV)(pb rb:Option Addr):List Value:= [.slice sl.a sl.len sl.cap,.slice sm.a sm.len sm.cap,.slice se.a se.len se.cap,.slice sx.a sx.len sx.cap,.pointer pb,.pointer rb]
abbrev s0:SliceV:=⟨none,0,0⟩
abbrev UD(b:Nat):SliceV:=⟨some ⟨b,0,none⟩,1,1⟩
abbrev pA(b:Nat):Option Addr:=some ⟨b,0,none⟩
def JI(c:Nat):List Int:=(cQ c).map fun j=>((j:Nat):Int)+1
def Vp(wb b1 b2 rb:Nat)(s1:SliceV)(y:Nat):Prop:=y=wb∨y=b1∨y=b2∨y=rb∨sb s1 y
structure Made(h h':ad)(kk:Int)(x:Hs)(c:Nat)(t:Tr)(r:Rt)(wb b1 b2 pb cb rb:Nat)(s1:SliceV):Prop where
 cw:h'[wb]? =some (.cells (Vt (UD b1) (UD b2) s0 s0 (pA pb) (pA rb)).toArray fR (0,0))
 c1:h'[b1]? =some (.cells (jT t).toArray aS (0,0))
 c2:h'[b2]? =some (.cells (qt r).toArray bX (0,0))
 r4:R4 h' rb s1 s0 s0 (JI c) [] []
 wo:Wo (Vp wb b1 b2 rb s1) h' pb cb c (JI c) kk x 0 []
 it:TreeIs (Un (Vp wb b1 b2 rb s1) cb []) h' kk x t []
 ir:RefIs (Un (Vp wb b1 b2 rb s1) cb []) h' kk x r []
 od:wb<b1∧wb<b2∧b1≠b2∧b1<cb∧b2<cb∧pb=cb+1∧pb<rb∧∀y,sb s1 y→rb<y
 mv:Mv No h (Un (Vp wb b1 b2 rb s1) cb []) h'
set_option maxRecDepth 100000 in
set_option maxHeartbeats 1000000 in
theorem Pi{h:ad}{k n kk:Int}{x:Hs}(hkk:kk=0∨kk=1)(ek:IntKind.wrap .i64 (aZ k 2)=kk){c:Nat}(ec:IntKind.wrap .i64 (1+IntKind.wrap .i64 (aZ n 4))=(c:Int))(h1c:1≤c)(h2c:c≤4){K:Option Addr→ad→Prop}
  (hk:∀Z t r wb b1 b2 pb cb rb s1,Made h Z kk x c t r wb b1 b2 pb cb rb s1→K (pA wb) Z):HC PG yX [.int .u8 k,.agg #[.int .u64 x.k0,.int .u64 x.k1,.int .u64 x.mask],.int .u8 n] [.c .ptr] K h:=by
 refine Ng k (x.k0,x.k1,x.mask) n ?_;unfold FG bh ah aI cp nv zT vH rk pj Jk dK zl7 DH C9 zF DT;rw[ek,ec];refine aJ fun v b1 k1=>aJ fun h2 b2 k2=>?_
 have z1:=aH b1;have z2:=aH b2;have g1:=k2.get0 b1;refine⟨by decide,_,vc g1 0,_,vc g1 1,_,vc g1 2,?_⟩;refine NL (W:=fun y=>y<h2.size) (x:=x) (fun _ h=>h) hkk fun h7 t i7 k7=>pB (t:=t) fun h9 b9 k9=>?_
 have z9:=aH b9;have g9:=(k7.tr k9).get0 g1;refine⟨by decide,_,vc g9 0,_,vc g9 1,_,vc g9 2,Kc fun S k14=>?_⟩
 have s7:=k7.size;have s14:=k14.size;refine Tj (W:=fun y=>y<S.size) (x:=x) hkk fun h16 r j16 k16=>NX (r:=r) fun d q k18=>?_
 have s16:=k16.size;have z18:=aH q;have m:=k14.tr (k16.tr k18);have u:=m.get0 b9;have w18:=((k7.tr k9).tr m).get0 b2;have n1:v.size≠h7.size∧v.size≠h16.size∧h7.size≠h16.size:=by omega
 have s1:=k1.size;refine Join.intro (fun _ Z=>∃b1 b2,Z[v.size]? =some (.cells (Vt (UD b1) (UD b2) s0 s0 none none).toArray fR (0,0))∧Z[b1]? =some (.cells (jT t).toArray aS (0,0))∧Z[b2]? =some (.cells (qt r).toArray bX (0,0))∧d.size≤b1∧d.size≤b2∧b1≠b2∧Upd (· =v.size) d Z) (fun R hR=>?_) ?_
 ·refine⟨_,vc u 0,_,vc u 1,_,vc u 2,_,vc u 3,_,vc u 4,_,vc u 5,_,vc q 0,_,vc q 1,_,vc q 2,_,vc q 3,r.2.2.2.2,vc q 4,⟨?_,?_⟩⟩
  ·refine aJ fun h31 X H=>?_
   have z31:=aH X;have C:=H.get0 q;have w31:=H.get0 w18;refine⟨⟨vc C 0,vc C 1,vc C 2,vc C 3,vc C 4⟩,_,rfl,?_,?_⟩
   ·refine aJ fun h33 b33 M=>?_
    have z33:=aH b33;refine lN (M.get0 w31) (i:=0) (by simp) rfl fun h34 T o=>⟨_,rfl,lN T (i:=1) (by simp) rfl fun h36 w36 O=>?_⟩
    exact hR _ _ ⟨d.size,h31.size,w36,O.oth (o.oth (M.get0 X) (by omega)) (by omega),O.oth (o.oth b33 (by omega)) (by omega),ao _,by omega,by omega,((H.tr M).wide.tr o).tr O⟩
   ·refine lN w31 (i:=0) (by simp) rfl fun h34 T o=>?_
    have E:=o.oth C (by omega);refine⟨⟨vc E 0,vc E 1,vc E 2,vc E 3,vc E 4⟩,aJ fun h38 b38 k38=>⟨_,rfl,lN (k38.get0 T) (i:=1) (by simp) rfl fun h40 w40 L=>?_⟩⟩
    have z38:=aH b38;have s34:=o.size;exact hR _ _ ⟨d.size,h34.size,w40,L.oth (k38.get0 (o.oth X (by omega))) (by omega),L.oth b38 (by omega),ao _,by omega,by omega,((H.wide.tr o).tr k38.wide).tr L⟩
  ·refine aJ fun h41 b41 P=>?_
   have z41:=aH b41;have A:=P.get0 u;refine⟨⟨vc A 0,vc A 1,vc A 2,vc A 3,vc A 4,vc A 5⟩,aJ fun h42 b42 Q=>⟨_,rfl,lN (Q.get0 (P.get0 w18)) (i:=0) (by simp) rfl fun h44 w44 N=>⟨_,rfl,lN w44 (i:=1) (by simp) rfl fun h46 w46 J=>?_⟩⟩⟩
   have z42:=aH b42;exact hR _ _ ⟨h41.size,d.size,w46,J.oth (N.oth b42 (by omega)) (by omega),J.oth (N.oth (Q.get0 b41) (by omega)) (by omega),by omega,ao _,by omega,((P.tr Q).wide.tr N).tr J⟩
 rintro _ z ⟨Y,V,w48,c1,c2,hb1,hb2,hne,I⟩;have zb1:=aH c1;have zb2:=aH c2;have s48:=I.size;refine⟨by decide,Ew h1c (by omega) fun h50 B p50=>?_⟩
 have zp:=aH p50.2.1;have w50:=B.get0 w48;refine⟨_,rfl,lN w50 (i:=4) (by simp) rfl fun h52 w52 s=>⟨by decide,O4 (by omega) fun h54 D r4 p F=>?_⟩⟩
 have s52:=s.size;have zr:=aH r4.bl.choose_spec;refine⟨_,rfl,lN (p.get0 w52) (i:=5) (by simp) rfl fun w w56 g=>?_⟩
 have s54:=p.size;have s56:=g.size;have kw:Upd (· =v.size) h2 w:=((((((k7.tr k9).tr m).wide.tr I).tr B.wide).tr s).tr p.wide).tr g
 have ns:∀{y},sb D y→y≠v.size:=fun f=>by have:=F _ f;omega
 have lts:∀{y},sb D y→y<w.size:=fun f=>by have:=(r4.o1.sub _ f).2;omega
 have un:∀y,Un (Vp v.size Y V h52.size D) z.size [] y→y=v.size∨d.size≤y:=by
  rintro y ((h|h|h|h|h)|h|⟨e,G,_⟩)
  ·exact .inl h
  ·exact .inr (by omega)
  ·exact .inr (by omega)
  ·exact .inr (by omega)
  ·exact .inr (by have:=F y h;omega)
  ·exact .inr (by omega)
  ·cases G
 have unl:∀y,Un (Vp v.size Y V h52.size D) z.size [] y→y<w.size:=by
  rintro y ((h|h|h|h|h)|h|⟨e,G,_⟩)
  ·omega
  ·omega
  ·omega
  ·omega
  ·exact lts h
  ·omega
  ·cases G
 have pl:PoolAt w (z.size+1) z.size c (JI c):=((p50.upd s (by omega) (by omega)).upd0 p).upd g (by omega) (by omega);refine hk w t r v.size Y V (z.size+1) z.size h52.size D ⟨w56,?_,?_,⟨⟨_,g.oth r4.bl.choose_spec (by omega)⟩,r4.o1.upd g fun y f h=>ns f h,OwnS.nil RS,OwnS.nil Ko⟩,⟨pl,by simp[JI,sy],fun y f=>unl y (.inl f),?_,?_,fun e G=>by(cases G),fun e G=>by(cases G),fun i j a b ha=>by(simp at ha)⟩,?_,?_,⟨by omega,by omega,hne,by omega,by omega,rfl,by omega,F⟩,⟨(k1.tr k2).trans kw fun y f=>.inr (by have f:y=v.size:=f;omega),fun y f=>.inr (by rcases un y f with h|h<;>omega)⟩⟩
 ·exact g.oth (p.get0 (s.oth (B.get0 c1) (by omega))) (by omega)
 ·exact g.oth (p.get0 (s.oth (B.get0 c2) (by omega))) (by omega)
 ·rintro(h|h|h|h|h)
  ·omega
  ·omega
  ·omega
  ·omega
  ·have:=F _ h;omega
 ·rintro((h|h|h|h|h)|h|⟨e,G,_⟩)
  ·omega
  ·omega
  ·omega
  ·omega
  ·have:=F _ h;omega
  ·omega
  ·cases G
 ·have i9:TreeIs (fun y=>y<h2.size∨d.size≤y) d kk x t []:=((i7.upd0 k9).upd0 m).less fun y f=>f
  have kr:Upd (· =v.size) d w:=(((I.tr B.wide).tr s).tr p.wide).tr g
  exact(i9.updM kr fun y f=>.inl (.inl (by have f:y=v.size:=f;omega))).less fun y f=>.inl ((un y f).imp (fun h=>by show y<h2.size;omega) id)
 ·have i9:RefIs (fun y=>y<S.size∨d.size≤y) d kk x r []:=(j16.upd0 k18).less fun y f=>f
  have kr:Upd (· =v.size) d w:=(((I.tr B.wide).tr s).tr p.wide).tr g
  exact(i9.updM kr fun y f=>.inl (.inl (by have f:y=v.size:=f;omega))).less fun y f=>.inl ((un y f).imp (fun h=>by show y<S.size;omega) id)
end Go.Proofs
namespace Go.Proofs
open Go Go.Lift
theorem Wo.w0{A:Nat→Prop}{h:ad}{pb cb cap n:Nat}{ids:List Int}{a:Int}{x:Hs}{es:List Ed}(w:Wo A h pb cb cap ids a x n es){b:Nat}(d:h.size≤b):¬Un A cb es b:=fun c=>by have:=w.ult b c;omega
end Go.Proofs
namespace Go.Proofs
open Go Go.Lift
structure Sp where
 T:Nat→Prop
 Q:ad→Prop
 loc:∀{M:Nat→Prop} {h h':ad},Q h→Upd M h h'→(∀y,T y→¬M y)→Q h'
def vM(b:Nat)(cs:List Value)(t:TypeId):Sp:=⟨(· =b),fun h=>h[b]? =some (.cells cs.toArray t (0,0)),fun q k a=>k.get q (a _ rfl)⟩
def iw{α:Type}(f:α→List Value)(sz:Nat)(ty:TypeId)(s:SliceV)(xs:List α):Sp:=⟨sb s,fun h=>OwnS f sz ty (sb s) h s xs,fun q k a=>q.upd k a⟩
def AL(Ss:List Sp)(y:Nat):Prop:=∃s∈Ss,s.T y
structure Own(Ss:List Sp)(h:ad):Prop where
 q:∀s∈Ss,s.Q h
 lt:∀s∈Ss,∀y,s.T y→y<h.size
 pd:∀(i j:Nat) (a b:Sp),Ss[i]? =some a→Ss[j]? =some b→i≠j→∀y,a.T y→¬b.T y
section
variable {Ss:List Sp} {h h':ad} {M:Nat→Prop} {s s':Sp} {i:Nat}
theorem Own.get(o:Own Ss h)(hi:Ss[i]? =some s):s.Q h:=o.q s (az hi)
theorem Own.away(o:Own Ss h)(k:Upd M h h')(hm:∀y,AL Ss y→¬M y):Own Ss h':=
 ⟨fun s a=>s.loc (o.q s a) k fun y b=>hm y ⟨s,a,b⟩,fun s a y b=>bP (o.lt s a y b) k.size,o.pd⟩
theorem Own.nil:Own [] h:=⟨(fun _ h=>by cases h),(fun _ h=>by cases h),(fun i j a b h=>by simp at h)⟩
theorem Own.set(o:Own Ss h)(hi:Ss[i]? =some s) (k:Upd M h h') (hm:∀y,M y→s.T y∨h.size≤y) (q:s'.Q h') (z:∀y,s'.T y→(s.T y∨h.size≤y)∧y<h'.size):Own (Ss.set i s') h':=by
 have C:i<Ss.length:=(aF.1 hi).1;have val:∀{j:Nat} {a:Sp},(Ss.set i s')[j]? =some a→(j=i∧a=s')∨(j≠i∧Ss[j]? =some a):=fun{j a} c=>by
  by_cases e:j=i
  ·subst e;rw[dR C]at c;cases c;exact .inl ⟨rfl,rfl⟩
  ·rw[eB (Ne.symm e)]at c;exact .inr ⟨e,c⟩
 have one:∀{j:Nat} {a:Sp},j≠i→Ss[j]? =some a→∀y,a.T y→¬s'.T y:=fun{j a} f c y d h'=>
  (z y h').1.elim (o.pd j i a s c hi f y d) fun h=>by have:=o.lt a (az c) y d;omega
 refine⟨fun a c=>?_,fun a c y d=>?_,fun p j a b c B m y d g=>?_⟩
 ·obtain⟨j,f⟩:=g8 c
  rcases val f with⟨_,rfl⟩|⟨w,f⟩
  ·exact q
  ·refine a.loc (o.get f) k fun y d hM=>?_
   rcases hm y hM with h|h
   ·exact o.pd j i a s f hi w y d h
   ·have:=o.lt a (az f) y d;omega
 ·obtain⟨j,f⟩:=g8 c
  rcases val f with⟨_,rfl⟩|⟨w,f⟩
  ·exact(z y d).2
  ·exact bP (o.lt a (az f) y d) k.size
 ·rcases val c with⟨n,rfl⟩|⟨n,v⟩<;>rcases val B with⟨u,rfl⟩|⟨u,A⟩
  ·exact m (n.trans u.symm)
  ·exact one u A y g d
  ·exact one n v y d g
  ·exact o.pd p j a b v A m y d g
theorem Own.push(o:Own Ss h)(k:Upd No h h')(q:s'.Q h')(i:∀y,s'.T y→h.size≤y∧y<h'.size):Own (Ss++ [s']) h':=by
 have val:∀{j:Nat} {a:Sp},(Ss++ [s'])[j]? =some a→(j=Ss.length∧a=s')∨Ss[j]? =some a:=fun{j a} c=>by
  rw[mo]at c;split at c
  ·exact .inr c
  ·have:j-Ss.length=0:=by have:=(aF.1 c).1;simp only[aK]at this;omega
   rw[this]at c;cases c;exact .inl ⟨by omega,rfl⟩
 have mem:∀{a},a∈Ss++ [s']→a∈Ss∨a=s':=fun h=>(bW.1 h).imp id au.1
 refine⟨fun a c=>?_,fun a c y f=>?_,fun p j a b c s g y f d=>?_⟩
 ·rcases mem c with c|rfl
  ·exact a.loc (o.q a c) k fun _ _ h=>h
  ·exact q
 ·rcases mem c with c|rfl
  ·exact bP (o.lt a c y f) k.size
  ·exact(i y f).2
 ·rcases val c with⟨u,rfl⟩|m<;>rcases val s with⟨v,rfl⟩|n
  ·omega
  ·have:=o.lt b (az n) y d;have:=(i y f).1;omega
  ·have:=o.lt a (az m) y f;have:=(i y d).1;omega
  ·exact o.pd p j a b m n g y f d
theorem Vo(hi:Ss[i]? =some s) {z:Nat} (d:∀y,s'.T y→s.T y∨z≤y):∀y,AL (Ss.set i s') y→AL Ss y∨z≤y:=fun y ⟨a,c,b⟩=>by
 rcases Dy c with rfl|⟨j,_,f⟩
 ·exact(d y b).imp (fun h=>⟨s,az hi,h⟩) id
 ·exact .inl ⟨a,az f,b⟩
end
structure Ws(Ss:List Sp)(h:ad)(pb cb cap:Nat)(ids:List Int)(kind:Int)(x:Hs)(n:Nat)(es:List Ed):Prop where
 own:Own Ss h
 wo:Wo (AL Ss) h pb cb cap ids kind x n es
section
variable {Ss:List Sp} {h h':ad} {pb cb cap n m:Nat} {ids ids':List Int} {kind:Int} {x:Hs} {es es':List Ed} {s s':Sp} {i:Nat} {M:Nat→Prop}
theorem Ws.up0(w:Ws Ss h pb cb cap ids kind x n es)(k:Upd No h h'):Ws Ss h' pb cb cap ids kind x n es:=⟨w.own.away k fun _ _ h=>h,w.wo.up0 k⟩
theorem Ws.set(w:Ws Ss h pb cb cap ids kind x n es)(hi:Ss[i]? =some s) (k:Upd M h h') (hm:∀y,M y→s.T y∨h.size≤y) (q:s'.Q h') (c:∀y,s'.T y→(s.T y∨h.size≤y)∧y<h'.size):Ws (Ss.set i s') h' pb cb cap ids kind x n es∧Mv (Un (AL Ss) cb es) h (Un (AL (Ss.set i s')) cb es) h':=by
 have o:=w.own.set hi k hm q c;have r:=w.wo.own (A':=AL (Ss.set i s')) k (fun y b=>(hm y b).imp (fun h=>⟨s,az hi,h⟩) id) fun y b=>⟨Vo hi (fun y b=>(c y b).1) y b,let⟨a,d,b⟩:=b;o.lt a d y b⟩
 exact⟨⟨o,r.1⟩,r.2⟩
theorem Ws.push(w:Ws Ss h pb cb cap ids kind x n es)(k:Upd No h h')(q:s'.Q h')(d:∀y,s'.T y→h.size≤y∧y<h'.size):Ws (Ss++ [s']) h' pb cb cap ids kind x n es∧Mv (Un (AL Ss) cb es) h (Un (AL (Ss++ [s'])) cb es) h':=by
 have o:=w.own.push k q d;have r:=w.wo.own (A':=AL (Ss++ [s'])) k (fun _ h=>h.elim) fun y ⟨a,b,c⟩=>⟨?_,o.lt a b y c⟩
 ·exact⟨⟨o,r.1⟩,r.2⟩
 ·rcases bW.1 b with b|b
  ·exact .inl ⟨a,b,c⟩
  ·rw[au.1 b]at c;exact .inr (d y c).1
theorem Ws.cell(w:Ws Ss h pb cb cap ids kind x n es){b:Nat}{cs cs':List Value}{t a:TypeId}(hi:Ss[i]? =some (vM b cs t)) (k:Upd (· =b) h h') (q:h'[b]? =some (.cells cs'.toArray a (0,0))):Ws (Ss.set i (vM b cs' a)) h' pb cb cap ids kind x n es∧Mv (Un (AL Ss) cb es) h (Un (AL (Ss.set i (vM b cs' a))) cb es) h':=
 w.set (s':=vM b cs' a) hi k (fun _ h=>.inl h) q fun y c=>⟨.inl c,(show y=b from c)▸aH q⟩
theorem Ws.slice(w:Ws Ss h pb cb cap ids kind x n es){α:Type}{f:α→List Value}{sz:Nat}{ty:TypeId}{a sn:SliceV}{xs ys:List α}(hi:Ss[i]? =some (iw f sz ty a xs)) (k:Upd (sb a) h h') (q:OwnS f sz ty (sb sn) h' sn ys) (b:∀y,sb sn y→(sb a y∨h.size≤y)∧y<h'.size):Ws (Ss.set i (iw f sz ty sn ys)) h' pb cb cap ids kind x n es∧Mv (Un (AL Ss) cb es) h (Un (AL (Ss.set i (iw f sz ty sn ys))) cb es) h':=
 w.set (s':=iw f sz ty sn ys) hi k (fun _ h=>.inl h) q b
theorem Ws.ed(w:Ws Ss h pb cb cap ids kind x n es)(wo:Wo (AL Ss) h' pb cb cap ids' kind x m es')(k:Me (AL Ss) cb es h es' h'):Ws Ss h' pb cb cap ids' kind x m es':=⟨w.own.away k.2 fun _ a h=>h a,wo⟩
theorem Ws.mono(w:Ws Ss h pb cb cap ids kind x n es)(hm:n≤m):Ws Ss h pb cb cap ids kind x m es:=⟨w.own,w.wo.mono hm⟩
theorem Ws.unl(w:Ws Ss h pb cb cap ids kind x n es):∀y,Un (AL Ss) cb es y→y<h.size:=w.wo.ult
end
end Go.Proofs
namespace Go.Proofs
open Go Go.Lift
abbrev p1(a:Option Addr):List Value:= [.pointer a]
theorem T2(a:Option Addr):(p1 a).length=1∧0<1:=⟨rfl,by omega⟩
structure Xd where
 b:Nat
 k:Nat
 ru:Rt
 fz:Bool
abbrev xL(r:Rt)(k:Nat)(fz:Bool):List Value:=qt r++ [.int .i64 (k:Int),.bool fz]
structure WC where
 wb:Nat
 rb:Nat
 pb:Nat
 cb:Nat
 cap:Nat
 N:Int
 kk:Int
 x:Hs
structure WG where
 sl:SliceV
 sm:SliceV
 se:SliceV
 sx:SliceV
 s1:SliceV
 s2:SliceV
 s3:SliceV
 lt:List Tr
 lr:List Rt
 le:List (Option Addr)
 lx:List (Option Addr)
 ids:List Int
 lv:List Bool
 is:List Int
 xs:List Xd
def SW(c:WC)(g:WG):List Sp:=vM c.wb (Vt g.sl g.sm g.se g.sx (pA c.pb) (pA c.rb)) fR::vM c.rb (JS c.N g.s1 g.s2 g.s3) fO::iw jT 6 aS g.sl g.lt::iw qt 5 bX g.sm g.lr::iw p1 1 fc g.se g.le::iw p1 1 gd g.sx g.lx::
 iw i1 1 gc g.s1 g.ids::iw SA 1 jF g.s2 g.lv::iw i1 1 gc g.s3 g.is::g.xs.map fun y=>vM y.b (xL y.ru y.k y.fz) kD
abbrev WC.U(c:WC)(Ss:List Sp)(es:List Ed):Nat→Prop:=Un (AL Ss) c.cb es
def g0(b1 b2:Nat)(s1:SliceV)(t:Tr)(r:Rt)(n:Nat):WG:=⟨UD b1,UD b2,s0,s0,s1,s0,s0,[t],[r],[],[],JI n,[],[],[]⟩
theorem Made.ws{h q:ad}{kk:Int}{x:Hs}{n:Nat}{t:Tr}{r:Rt}{wb b1 b2 pb cb rb:Nat}{s1:SliceV}(md:Made h q kk x n t r wb b1 b2 pb cb rb s1):∃N,∀c,c=WC.mk wb rb pb cb n N kk x→
  Ws (SW c (g0 b1 b2 s1 t r n)) q pb cb n (JI n) kk x 0 []∧TreeIs (c.U (SW c (g0 b1 b2 s1 t r n)) []) q kk x t []∧RefIs (c.U (SW c (g0 b1 b2 s1 t r n)) []) q kk x r []∧Mv No h (c.U (SW c (g0 b1 b2 s1 t r n)) []) q:=by
 obtain⟨N,C⟩:=md.r4.bl;refine⟨N,fun c hc=>?_⟩
 subst hc;obtain⟨I,H,D,K,L,G,J,B⟩:=md.od;have z:∀y,AL (SW ⟨wb,rb,pb,cb,n,N,kk,x⟩ (g0 b1 b2 s1 t r n)) y→Vp wb b1 b2 rb s1 y:=by
  rintro y ⟨s,p,f⟩;simp only[SW,g0,mX,aA,List.not_mem_nil,or_false]at p;rcases p with rfl|rfl|rfl|rfl|rfl|rfl|rfl|rfl|rfl
  ·exact .inl f
  ·exact .inr (.inr (.inr (.inl f)))
  ·obtain⟨_,a,d,e⟩:=f;cases d;exact .inr (.inl e)
  ·obtain⟨_,a,d,e⟩:=f;cases d;exact .inr (.inr (.inl e))
  ·exact absurd f (uQ y)
  ·exact absurd f (uQ y)
  ·exact .inr (.inr (.inr (.inr f)))
  ·exact absurd f (uQ y)
  ·exact absurd f (uQ y)
 have m:=md.wo.own (A':=AL (SW ⟨wb,rb,pb,cb,n,N,kk,x⟩ (g0 b1 b2 s1 t r n))) (Upd.refl No q) (fun _ h=>h.elim) fun y f=>⟨.inl (z y f),md.wo.lt y (z y f)⟩
 have sl:∀{b y},sb (UD b) y→y=b:=fun⟨_,a,d,e⟩=>by cases d;exact e
 have E:Own [] q:=Own.nil;have pd:∀(i j:Nat) (a b:Sp),(SW ⟨wb,rb,pb,cb,n,N,kk,x⟩ (g0 b1 b2 s1 t r n))[i]? =some a→(SW ⟨wb,rb,pb,cb,n,N,kk,x⟩ (g0 b1 b2 s1 t r n))[j]? =some b→i<j→∀y,a.T y→¬b.T y:=by
  intro i j a b d u A y f g;have hi:i<9:=by have:=(aF.1 d).1;exact this
  have F:j<9:=by have:=(aF.1 u).1;exact this
  have o:∀(i:Nat) (a:Sp),(SW ⟨wb,rb,pb,cb,n,N,kk,x⟩ (g0 b1 b2 s1 t r n))[i]? =some a→a.T y→(i=0∧y=wb)∨(i=1∧y=rb)∨(i=2∧y=b1)∨(i=3∧y=b2)∨(i=6∧rb<y):=fun i a d f=>by
   match i,d with
   |0,d=>cases d;exact .inl ⟨rfl,f⟩
   |1,d=>cases d;exact .inr (.inl ⟨rfl,f⟩)
   |2,d=>cases d;exact .inr (.inr (.inl ⟨rfl,sl f⟩))
   |3,d=>cases d;exact .inr (.inr (.inr (.inl ⟨rfl,sl f⟩)))
   |4,d=>cases d;exact absurd f (uQ y)
   |5,d=>cases d;exact absurd f (uQ y)
   |6,d=>cases d;exact .inr (.inr (.inr (.inr ⟨rfl,B y f⟩)))
   |7,d=>cases d;exact absurd f (uQ y)
   |8,d=>cases d;exact absurd f (uQ y)
   |k+9,d=>exact absurd d (by simp[SW,g0])
  rcases o i a d f with⟨h,e⟩|⟨h,e⟩|⟨h,e⟩|⟨h,e⟩|⟨h,e⟩<;>rcases o j b u g with⟨w,v⟩|⟨w,v⟩|⟨w,v⟩|⟨w,v⟩|⟨w,v⟩<;>omega
 refine⟨⟨⟨fun s p=>?_,fun s p y f=>md.wo.lt y (z y ⟨s,p,f⟩),fun i j a b d u A y f g=>?_⟩,m.1⟩,md.it.mv m.2,md.ir.mv m.2,md.mv.tr m.2⟩
 ·simp only[SW,g0,mX,aA,List.not_mem_nil,or_false]at p
  rcases p with rfl|rfl|rfl|rfl|rfl|rfl|rfl|rfl|rfl
  ·exact md.cw
  ·exact C
  ·exact OwnS.one Uw md.c1
  ·exact OwnS.one UF md.c2
  ·exact OwnS.nil T2
  ·exact OwnS.nil T2
  ·exact md.r4.o1
  ·exact OwnS.nil RS
  ·exact OwnS.nil Ko
 ·rcases Nat.lt_or_ge i j with h|h
  ·exact pd i j a b d u h y f g
  ·exact pd j i b a u d (by omega) y g f
end Go.Proofs
namespace Go.Proofs
open Go Go.Lift
theorem OwnS.set1{α:Type}{f:α→List Value}{ty:TypeId}{h:ad}{s:SliceV}{xs:List α}{k:Nat}{x:α}{v:Value}(o:OwnS f 1 ty (sb s) h s xs)(n:f x= [v])(p:k<xs.length):
  ∃a,s.a=some a∧Wr h (adr a (k*1))∧OwnS f 1 ty (sb s) (hset h (adr a (k*1)) v) s (xs.set k x)∧Upd (sb s) h (hset h (adr a (k*1)) v):=by
 obtain⟨a,i,hm,g,m,q⟩:=OwnS.setAt o p x;have e:gT h (adr a (k*1)) 0 (f x)=hset h (adr a (k*1)) v:=by
  rw[n];simp only[gT];rcases o.blk with j|⟨b,d,c,_,_,_⟩
  ·have:=o.len;have:=o.cap;omega
  ·rw[i]at c
   cases c;simp[bO]
 rw[e]at m q;refine⟨a,i,?_,by rw[List.set_eq_take_append_cons_drop,if_pos p];exact m,q.mono fun y u=>.inl (by rw[show y=a.block from u];exact hm)⟩
 rw[n]at g;rcases g with j|⟨b,c,g⟩
 ·cases j
 ·cases c
  have:=g 0 (by simp);rcases o.blk with j|⟨b,d,c,_,_,_⟩
  ·have:=o.len;have:=o.cap;omega
  ·rw[i]at c
   cases c;simpa[bO]using this
section
variable {c:WC} {g:WG} {h:ad} {pb cb cap n:Nat} {ids:List Int} {kk:Int} {x:Hs} {es:List Ed}
set_option maxHeartbeats 1000000 in
theorem Em(w:Ws (SW c g) h pb cb cap ids kk x n es){i:Int}{b:List Int}(hi:g.ids=i::b)(hn:g.ids.length≤1000∧g.lv.length≤1000∧g.is.length≤1000){K:Int×Int→ad→Prop}
  (hk:∀Q s1 s2 s3,Ws (SW c {g with s1:=s1,s2:=s2,s3:=s3,ids:=b,lv:=g.lv++ [true],is:=g.is++ [i]}) Q pb cb cap ids kk x n es→Mv (Un (AL (SW c g)) cb es) h (Un (AL (SW c {g with s1:=s1,s2:=s2,s3:=s3,ids:=b,lv:=g.lv++ [true],is:=g.is++ [i]})) cb es) Q→K ((g.is.length:Nat),0) Q):
  HC PG rF [.pointer (pA c.rb)] [.c (.int .i64),.c (.int .i64)] K h:=by
 refine Fg _ ?_;unfold zq bJ dH aM cp;have P:h[c.rb]? =some (.cells (JS c.N g.s1 g.s2 g.s3).toArray fO (0,0)):=w.own.get (i:=1) rfl;have o1:OwnS i1 1 gc (sb g.s1) h g.s1 g.ids:=w.own.get (i:=6) rfl;have l1:=o1.len;rw[hi,aV]at l1;refine⟨_,rfl,g.s1,vc P 1,CondP.intro (fun h0=>?_) fun _=>?_⟩
 ·have h0:(g.s1.len:Int)=0:=by simpa using h0
  omega
 refine Join.intro (fun _ Q=>∃s2 s3,Ws (SW c {g with s2:=s2,s3:=s3,lv:=g.lv++ [true],is:=g.is++ [i]}) Q pb cb cap ids kk x n es∧Mv (Un (AL (SW c g)) cb es) h (Un (AL (SW c {g with s2:=s2,s3:=s3,lv:=g.lv++ [true],is:=g.is++ [i]})) cb es) Q) (fun R hR=>?_) ?_
 ·obtain⟨a,hav,_,hv⟩:=(o1.sl (W:=No) fun _ _ _ h=>h).at0 (i:=0) (x:=i) (by rw[hi];rfl)
  have fin:∀{I:ad} {s2 s3:SliceV},Ws (((SW c g).set 8 (iw i1 1 gc s3 (g.is++ [i]))).set 7 (iw SA 1 jF s2 (g.lv++ [true]))) I pb cb cap ids kk x n es→Mv (Un (AL (SW c g)) cb es) h (Un (AL (((SW c g).set 8 (iw i1 1 gc s3 (g.is++ [i]))).set 7 (iw SA 1 jF s2 (g.lv++ [true])))) cb es) I→
    aR I (adr ⟨c.rb,0,none⟩ 1)=some (.slice g.s1.a g.s1.len g.s1.cap)∧∃a20:Addr,pA c.rb=some a20∧(Wr I (adr a20 3)∧At (hset I (adr a20 3) (.slice s3.a s3.len s3.cap)) fun F=>∃a22:Addr,pA c.rb=some a22∧(Wr F (adr a22 2)∧At (hset F (adr a22 2) (.slice s2.a s2.len s2.cap)) fun h23=>R () h23)):=by
   intro I s2 s3 wC mC;have crC:I[c.rb]? =some (.cells (JS c.N g.s1 g.s2 g.s3).toArray fO (0,0)):=wC.own.get (i:=1) rfl;refine⟨vc crC 1,_,rfl,lN crC (i:=3) (by simp) rfl fun F b21 u21=>⟨_,rfl,lN b21 (i:=2) (by simp) rfl fun h23 b23 u23=>?_⟩⟩
   have r23:=wC.cell (i:=1) (cs':=JS c.N g.s1 s2 s3) rfl (u21.tr u23) b23;exact hR _ _ ⟨s2,s3,r23.1,mC.tr r23.2⟩
  refine⟨_,rfl,g.s3,vc P 3,_,rfl,g.s1,vc P 1,⟨qs _,by omega⟩,a,hav,i,hv,_,rfl,g.s2,vc P 2,?_,?_⟩
  ·refine aJ fun h12 Y s=>?_
   have z:=w.up0 s;have j:=s.get0 P;refine⟨vc j 2,vc j 1,vc j 3,?_,?_⟩
   ·refine j6 (f:=i1) (t:=i) (z.own.get (i:=8) rfl) Y rfl rfl ⟨by omega,by omega⟩ (by omega) fun s3 h15 o15 k15 T=>?_
    have G:=z.slice (i:=8) (xs:=g.is) rfl k15 o15 T;have m:h15[c.rb]? =some (.cells (JS c.N g.s1 g.s2 g.s3).toArray fO (0,0)):=G.1.own.get (i:=1) rfl;refine⟨vc m 2,vc m 1,aJ fun h16 b16 J=>?_⟩
    have w16:=G.1.up0 J;have E:=J.get0 m;refine⟨vc E 2,vc E 1,j6 (f:=SA) (t:=true) (w16.own.get (i:=7) rfl) b16 rfl rfl ⟨by omega,by omega⟩ (by omega) fun s2 h19 o19 k19 hs19=>?_⟩
    have r19:=w16.slice (i:=7) (xs:=g.lv) rfl k19 o19 hs19;exact fin r19.1 ((((Mv.of0 s).tr G.2).up0 J).tr r19.2)
   ·refine aJ fun h24 Z A=>?_
    have w24:=z.up0 A;have o:=A.get0 j;refine⟨vc o 2,vc o 1,vc o 3,j6 (f:=i1) (t:=i) (w24.own.get (i:=8) rfl) (A.get0 Y) rfl rfl ⟨by omega,by omega⟩ (by omega) fun s3 h27 o27 S X=>?_⟩
    have u:=w24.slice (i:=8) (xs:=g.is) rfl S o27 X;have C:h27[c.rb]? =some (.cells (JS c.N g.s1 g.s2 g.s3).toArray fO (0,0)):=u.1.own.get (i:=1) rfl;have z24:=aH Z;have b27:=S.get Z fun hb=>by have:=z.own.lt _ (az (i:=8) rfl) _ hb;omega
    refine⟨vc C 2,vc C 1,j6 (f:=SA) (t:=true) (u.1.own.get (i:=7) rfl) b27 rfl rfl ⟨by omega,by omega⟩ (by omega) fun s2 h30 o30 k30 hs30=>?_⟩
    have r30:=u.1.slice (i:=7) (xs:=g.lv) rfl k30 o30 hs30;exact fin r30.1 (((Mv.of0 (s.tr A)).tr u.2).tr r30.2)
  ·refine aJ fun h35 b35 v=>?_
   have w35:=w.up0 v;have d:=v.get0 P;refine⟨vc d 2,v.cell0 hv,vc d 1,vc d 3,aJ fun h36 b36 q=>?_⟩
   have w36:=w35.up0 q;have k:=q.get0 d;refine⟨vc k 2,vc k 1,vc k 3,j6 (f:=i1) (t:=i) (w36.own.get (i:=8) rfl) b36 rfl rfl ⟨by omega,by omega⟩ (by omega) fun s3 h39 o39 k39 hs39=>?_⟩
   have B:=w36.slice (i:=8) (xs:=g.is) rfl k39 o39 hs39;have D:h39[c.rb]? =some (.cells (JS c.N g.s1 g.s2 g.s3).toArray fO (0,0)):=B.1.own.get (i:=1) rfl;have z35:=aH b35;have b39:=k39.get (q.get0 b35) fun hb=>by have:=w.own.lt _ (az (i:=8) rfl) _ hb;omega
   refine⟨vc D 2,vc D 1,j6 (f:=SA) (t:=true) (B.1.own.get (i:=7) rfl) b39 rfl rfl ⟨by omega,by omega⟩ (by omega) fun s2 h42 o42 k42 hs42=>?_⟩
   have r42:=B.1.slice (i:=7) (xs:=g.lv) rfl k42 o42 hs42;exact fin r42.1 (((Mv.of0 (v.tr q)).tr B.2).tr r42.2)
 ·rintro _ h48 ⟨s2,s3,w48,m48⟩
  have l3:s3.len=(g.is++ [i]).length:=(w48.own.get (i:=8) rfl:OwnS i1 1 gc (sb s3) h48 s3 (g.is++ [i])).len;refine Join.plain (aJ fun p b50 k50=>?_)
  have L:=w48.up0 k50;have V:p[c.rb]? =some (.cells (JS c.N g.s1 s2 s3).toArray fO (0,0)):=L.own.get (i:=1) rfl;have H:OwnS i1 1 gc (sb g.s1) p g.s1 g.ids:=L.own.get (i:=6) rfl;rw[hi]at H;refine⟨_,rfl,g.s1,vc V 1,⟨by omega,by omega⟩,_,(WB (H.sl (W:=No) fun _ _ _ h=>h) H.cap).srow,?_⟩
  refine AppP.own (f:=i1) (xs:= []) (ys:=b) (M:=fun y=>p.size≤y) (OwnS.nil Ko) (by show g.s1.len-1=b.length;omega) rfl ?_ rfl (by omega) ?_ (ao _) fun s1 h55 O k55=>?_
  ·exact(fun l=>by induction l with|nil=>rfl|cons a l ih=>rw[List.flatMap_cons];exact kH rfl ih:∀l:List Int,co (l.flatMap i1)=true) b
  ·have:b.length≤1000:=by have:=hn.1;rw[hi,aV]at this;omega
   simp only[cB];omega
  ·have k0:Upd No p h55:=k55.mono fun y hy=>.inr hy
   have N:=L.set (i:=6) (s':=iw i1 1 gc s1 ([]++b)) rfl k0 (fun _ h=>h.elim) O.its fun y hy=>⟨.inr (O.sub y hy).1,(O.sub y hy).2⟩
   have cr55:h55[c.rb]? =some (.cells (JS c.N g.s1 s2 s3).toArray fO (0,0)):=N.1.own.get (i:=1) rfl;refine⟨_,rfl,lN cr55 (i:=1) (by simp) rfl fun h57 b57 u57=>⟨_,rfl,s3,vc b57 3,?_⟩⟩
   have r57:=N.1.cell (i:=1) (cs':=JS c.N s1 s2 s3) rfl u57 b57;have e:IntKind.wrap .i64 ((s3.len:Int)-1)=((g.is.length:Nat):Int):=by
    have:=hn.2.2;rw[l3,af,aK,oD (by omega)];omega
   rw[e];exact hk h57 s1 s2 s3 r57.1 (((m48.up0 k50).tr N.2).tr r57.2)
theorem G0(w:Ws (SW c g) h pb cb cap ids kk x n es){k:Nat}{t:Int}(A:g.is[k]? =some t) (q:g.lv[k]? =some true) (hn:g.ids.length≤1000) {K:Int→ad→Prop}
  (V:∀h' s1,Ws (SW c {g with s1:=s1,ids:=g.ids++ [t],lv:=g.lv.set k false}) h' pb cb cap ids kk x n es→Mv (Un (AL (SW c g)) cb es) h (Un (AL (SW c {g with s1:=s1,ids:=g.ids++ [t],lv:=g.lv.set k false})) cb es) h'→K 0 h'):
  HC PG xE [.pointer (pA c.rb),.int .i64 (k:Nat)] [.c (.int .i64)] K h:=by
 refine PR _ _ ?_;unfold HK bJ dH aM cp;have Q:h[c.rb]? =some (.cells (JS c.N g.s1 g.s2 g.s3).toArray fO (0,0)):=w.own.get (i:=1) rfl;have o2:OwnS SA 1 jF (sb g.s2) h g.s2 g.lv:=w.own.get (i:=7) rfl;have o3:OwnS i1 1 gc (sb g.s3) h g.s3 g.is:=w.own.get (i:=8) rfl;have M:k<g.lv.length:=(aF.1 q).1;have X:k<g.is.length:=(aF.1 A).1
 have l2:=o2.len;have l3:=o3.len;obtain⟨a,F,_,hv⟩:=(o2.sl (W:=No) fun _ _ _ h=>h).at0 (i:=k) (x:=true) q
 obtain⟨a',s,Y,S,R⟩:=OwnS.set1 (k:=k) (x:=false) (v:=.bool false) o2 rfl M;have C:=w.slice (i:=7) (xs:=g.lv) (sn:=g.s2) rfl R S fun y P=>⟨.inl P,bP (o2.sub y P).2 R.size⟩
 refine⟨_,rfl,g.s2,vc Q 2,⟨by omega,by omega⟩,a,F,true,hv,aj.2 ⟨_,rfl,g.s2,vc Q 2,⟨by omega,by omega⟩,a',s,Y,bV ?_⟩⟩
 have b:=C.1.own.get (i:=1) rfl;have b:(hset h (adr a' (k*1)) (.bool false))[c.rb]? =some (.cells (JS c.N g.s1 g.s2 g.s3).toArray fO (0,0)):=b;have O:OwnS i1 1 gc (sb g.s3) (hset h (adr a' (k*1)) (.bool false)) g.s3 g.is:=C.1.own.get (i:=8) rfl;obtain⟨T,u,_,H⟩:=(O.sl (W:=No) fun _ _ _ h=>h).at0 (i:=k) (x:=t) A
 refine⟨_,rfl,g.s1,vc b 1,_,rfl,g.s3,vc b 3,⟨by omega,by omega⟩,T,u,t,H,aJ fun Z E m=>?_⟩
 have p:=C.1.up0 m;have d:=m.get0 b;refine⟨vc d 3,vc d 1,j6 (f:=i1) (t:=t) (p.own.get (i:=6) rfl) E rfl rfl ⟨by omega,by omega⟩ (by omega) fun s1 D I L B=>?_⟩
 have o:=p.slice (i:=6) (xs:=g.ids) rfl L I B;have j:D[c.rb]? =some (.cells (JS c.N g.s1 g.s2 g.s3).toArray fO (0,0)):=o.1.own.get (i:=1) rfl;refine⟨vc j 3,_,rfl,lN j (i:=1) (by simp) rfl fun N G J=>?_⟩
 have z:=o.1.cell (i:=1) (cs':=JS c.N s1 g.s2 g.s3) rfl J G;exact V N s1 z.1 (((C.2.up0 m).tr o.2).tr z.2)
end
end Go.Proofs
namespace Go.Proofs
open Go Go.Lift
theorem H2{h:ad}{b n:Nat}{t:TypeId}{c d vs:List Value}(a:h[b]? =some (.cells (d++c).toArray t (0,0))) (f:0=n) (i:vs.length=d.length) {k:ad→Prop}
  (g:∀h',h'[b]? =some (.cells (vs++c).toArray t (0,0))→Upd (· =b) h h'→k h'):tT h (some (adr ⟨b,0,none⟩ n)) 0 vs∧At (gT h (adr ⟨b,0,none⟩ n) 0 vs) k:=by
 subst f;rw[bO,aL];have e:=iG vs h 0 0 (d++c) a (by rw[af];omega);refine⟨.inr ⟨_,rfl,fun j m=>by rw[bO];exact iv a (by rw[List.size_toArray,af];omega)⟩,bV ?_⟩
 rw[e];refine g _ ?_ (Upd.set h _ rfl);rw[jK a];congr 3
 simp only[Nat.add_zero,List.take_zero,List.nil_append,aL];rw[i,List.drop_left]
section
variable {c:WC} {g:WG} {h:ad} {pb cb cap n:Nat} {ids:List Int} {kk:Int} {x:Hs} {es:List Ed} {i:Nat} {y y':Xd} {l:List Pr}
theorem SW.ax(a:g.xs[i]? =some y):(SW c g)[i+9]? =some (vM y.b (xL y.ru y.k y.fz) kD):=by
 show(g.xs.map fun y=>vM y.b (xL y.ru y.k y.fz) kD)[i]? =_
 rw[eu,a];rfl
theorem SW.sx:(SW c g).set (i+9) (vM y.b (xL y.ru y.k y.fz) kD)=SW c {g with xs:=g.xs.set i y}:=by
 simp only[SW,List.set_cons_succ,List.map_set]
theorem Ws.xc(w:Ws (SW c g) h pb cb cap ids kk x n es)(a:g.xs[i]? =some y):h[y.b]? =some (.cells (xL y.ru y.k y.fz).toArray kD (0,0)):=w.own.get (SW.ax a)
theorem Ws.xset(w:Ws (SW c g) h pb cb cap ids kk x n es)(b:g.xs[i]? =some y) {a:ad} (u:Upd (· =y.b) h a) (d:y'.b=y.b) (q:a[y.b]? =some (.cells (xL y'.ru y'.k y'.fz).toArray kD (0,0))):
  Ws (SW c {g with xs:=g.xs.set i y'}) a pb cb cap ids kk x n es∧Mv (Un (AL (SW c g)) cb es) h (Un (AL (SW c {g with xs:=g.xs.set i y'})) cb es) a:=by
 have r:=w.cell (SW.ax b) u q;rw[←d,SW.sx]at r;exact r
theorem GZ(w:Ws (SW c g) h pb cb cap ids kk x n es)(b:g.xs[i]? =some y) (j:RefIs (Un (AL (SW c g)) cb es) h kk x y.ru l) (up:cA l) (len:l.length≤1000000) (p:Pr) {K:Int→ad→Prop}
  (X:y.fz=true→∀h',Upd No h h'→K 5 h') (D:y.fz=false→∀h' ru',Ws (SW c {g with xs:=g.xs.set i {y with ru:=ru'}}) h' pb cb cap ids kk x n es→Mv (Un (AL (SW c g)) cb es) h (Un (AL (SW c {g with xs:=g.xs.set i {y with ru:=ru'}})) cb es) h'→RefIs (Un (AL (SW c {g with xs:=g.xs.set i {y with ru:=ru'}})) cb es) h' kk x ru' (lQ l p)→K (Bl p) h'):
  HC PG xD [.pointer (pA y.b),.agg #[.string p.1,.string p.2]] [.c (.int .i64)] K h:=by
 refine PN _ p ?_;unfold HG bh jt ah bS aG aM eK nv GH qK dK DH C9 DT tZ yA fL;refine aJ fun Z b1 k1=>?_
 have G:=w.up0 k1;have v:=G.xc b;refine⟨_,rfl,y.fz,vc v 6,CondP.intro (fun L=>X L Z k1) fun L=>?_⟩
 have z1:=aH b1;have zx:=aH (w.xc b);refine⟨_,rfl,_,fI v 0 0,_,fI v 0 1,_,fI v 0 2,_,fI v 0 3,y.ru.2.2.2.2,fI v 0 4,_,vc b1 0,_,vc b1 1,?_,?_⟩
 ·refine xu (j.upd0 k1) G.unl up len p fun h13 f M J=>NX (r:=f) fun h15 k q=>?_
  have z:=G.up0 (J.tr q);refine⟨_,vc k 0,_,vc k 1,_,vc k 2,_,vc k 3,f.2.2.2.2,vc k 4,_,rfl,?_⟩;refine H2 (d:=qt y.ru) (c:= [.int .i64 (y.k:Int),.bool y.fz]) (vs:=qt f) (z.xc b) rfl rfl fun R W P=>?_
  have u:=z.xset b (y':={y with ru:=f}) P rfl W;exact D L R f u.1 ((Mv.of0 (k1.tr (J.tr q))).tr u.2) ((M.upd0 q).mv u.2)
 ·refine aJ fun Y I o=>?_
  have B:=G.up0 o;have a:=B.xc b;have F:=o.get0 b1;refine⟨⟨vc F 0,vc F 1⟩,⟨fI a 0 0,fI a 0 1,fI a 0 2,fI a 0 3,fI a 0 4⟩,?_⟩;have z23:=aH I;have jl:RefIs (fun y=>Un (AL (SW c g)) cb es y∨y=Z.size) Y kk x y.ru l:=((j.upd0 k1).less fun y b=>b.imp id fun h=>by omega).upd0 o
  refine xu jl (fun y b=>b.elim (B.unl y) fun h=>by omega) up len p fun h25 f O A=>?_
  refine cS (c:=qt P6) (vs:=qt f) (A.get0 I) rfl fun Q m E=>?_
  have H:=(o.tr A).own E (ao _);have C:=G.up0 H;have N:RefIs (Un (AL (SW c g)) cb es) Q kk x f (lQ l p):=(O.updM E fun y b=>.inl (.inr b)).less fun y b=>.inl (.inl b)
  refine⟨_,vc m 0,_,vc m 1,_,vc m 2,_,vc m 3,f.2.2.2.2,vc m 4,_,rfl,?_⟩;refine H2 (d:=qt y.ru) (c:= [.int .i64 (y.k:Int),.bool y.fz]) (vs:=qt f) (C.xc b) rfl rfl fun S V T=>?_
  have s:=C.xset b (y':={y with ru:=f}) T rfl V;exact D L S f s.1 ((Mv.of0 (k1.tr H)).tr s.2) (N.mv s.2)
theorem El(w:Ws (SW c g) h pb cb cap ids kk x n es)(D:g.xs[i]? =some y) (j:RefIs (Un (AL (SW c g)) cb es) h kk x y.ru l) (up:cA l) (fit:Fit l) (len:l.length≤1000000) (k:ByteArray) {K:Int→ad→Prop}
  (C:y.fz=true→K 5 h) (A:y.fz=false→∀h' ru',Ws (SW c {g with xs:=g.xs.set i {y with ru:=ru'}}) h' pb cb cap ids kk x n es→Mv (Un (AL (SW c g)) cb es) h (Un (AL (SW c {g with xs:=g.xs.set i {y with ru:=ru'}})) cb es) h'→RefIs (Un (AL (SW c {g with xs:=g.xs.set i {y with ru:=ru'}})) cb es) h' kk x ru' (oy l k)→K (BU l k) h'):
  HC PG ve [.pointer (pA y.b),.string k] [.c (.int .i64)] K h:=by
 refine M5 _ k ?_;unfold Fs bh jt ah bS aM nv GH dK DH C9 DT yA fL;have m:=w.xc D;refine⟨_,rfl,y.fz,vc m 6,CondP.intro (fun z=>C z) fun z=>?_⟩
 refine⟨_,rfl,_,fI m 0 0,_,fI m 0 1,_,fI m 0 2,_,fI m 0 3,y.ru.2.2.2.2,fI m 0 4,?_⟩;refine zR j w.unl up fit len k fun F p v q=>NX (r:=p) fun E a b=>?_
 have o:=w.up0 (q.tr b);refine⟨_,vc a 0,_,vc a 1,_,vc a 2,_,vc a 3,p.2.2.2.2,vc a 4,_,rfl,?_⟩;refine H2 (d:=qt y.ru) (c:= [.int .i64 (y.k:Int),.bool y.fz]) (vs:=qt p) (o.xc D) rfl rfl fun s B u=>?_
 have f:=o.xset D (y':={y with ru:=p}) u rfl B;exact A z s p f.1 ((Mv.of0 (q.tr b)).tr f.2) ((v.upd0 b).mv f.2)
theorem Ic(w:Ws (SW c g) h pb cb cap ids kk x n es)(m:g.xs[i]? =some y) (q:y.fz=false) {t:Int} (d:g.is[y.k]? =some t) (b:g.lv[y.k]? =some true) (u:g.ids.length≤1000) {K:Int→ad→Prop}
  (v:∀h' s1,Ws (SW c {g with s1:=s1,ids:=g.ids++ [t],lv:=g.lv.set y.k false,xs:=g.xs.set i {y with fz:=true}}) h' pb cb cap ids kk x n es→Mv (Un (AL (SW c g)) cb es) h (Un (AL (SW c {g with s1:=s1,ids:=g.ids++ [t],lv:=g.lv.set y.k false,xs:=g.xs.set i {y with fz:=true}})) cb es) h'→K 0 h'):
  HC PG qZ [.pointer (pA c.rb),.pointer (pA y.b)] [.c (.int .i64)] K h:=by
 refine AK _ _ ?_;unfold vy jt cp iR fL;have k:=w.xc m;refine⟨_,rfl,y.fz,vc k 6,?_⟩;rw[q];refine aj.2 ⟨_,rfl,_,vc k 5,G0 w d b u fun A s1 f o=>?_⟩
 have a:({g with s1:=s1,ids:=g.ids++ [t],lv:=g.lv.set y.k false}:WG).xs[i]? =some y:=m;refine⟨_,rfl,lN (f.xc a) (i:=6) (by simp) rfl fun p z s=>?_⟩
 have j:=f.xset a (y':={y with fz:=true}) s rfl z;exact v p s1 j.1 (o.tr j.2)
theorem Ib(w:Ws (SW c g) h pb cb cap ids kk x n es)(d:g.xs[i]? =some y) (f:y.fz=true) {o:Option Addr} {K:Int→ad→Prop} (a:K 5 h):HC PG qZ [.pointer o,.pointer (pA y.b)] [.c (.int .i64)] K h:=by
 refine AK _ _ ?_;unfold vy jt cp iR fL;have b:=w.xc d;refine⟨_,rfl,y.fz,vc b 6,?_⟩;rw[f];exact ay.2 a
theorem LX(w:Ws (SW c g) h pb cb cap ids kk x n es)(d:g.xs[i]? =some y) (f:y.fz=true) {o:Option Addr} {K:Int→ad→Prop} (a:K 5 h):HC PG vd [.pointer o,.pointer (pA y.b)] [.c (.int .i64)] K h:=by
 refine Fe _ _ ?_;unfold zn jt cp iR fL;have b:=w.xc d;refine⟨_,rfl,y.fz,vc b 6,?_⟩;rw[f];exact ay.2 a
theorem LW(w:Ws (SW c g) h pb cb cap ids kk x n es)(v:g.xs[i]? =some y) (B:y.fz=false) {t j:Int} {a:List Int} (p:g.is[y.k]? =some t) (f:g.lv[y.k]? =some true) (hi:g.ids++ [t]=j::a) (E:g.ids.length≤999∧g.lv.length≤1000∧g.is.length≤1000) {K:Int→ad→Prop}
  (D:∀h' s1 s2 s3,Ws (SW c {g with s1:=s1,s2:=s2,s3:=s3,ids:=a,lv:=g.lv.set y.k false++ [true],is:=g.is++ [j],xs:=g.xs.set i {y with k:=g.is.length}}) h' pb cb cap ids kk x n es→Mv (Un (AL (SW c g)) cb es) h (Un (AL (SW c {g with s1:=s1,s2:=s2,s3:=s3,ids:=a,lv:=g.lv.set y.k false++ [true],is:=g.is++ [j],xs:=g.xs.set i {y with k:=g.is.length}})) cb es) h'→K 0 h'):
  HC PG vd [.pointer (pA c.rb),.pointer (pA y.b)] [.c (.int .i64)] K h:=by
 refine Fe _ _ ?_;unfold zn jt cp iR fL;have u:=w.xc v;refine⟨_,rfl,y.fz,vc u 6,?_⟩;rw[B];refine aj.2 ⟨_,rfl,_,vc u 5,G0 w p f (by omega) fun G s1 C A=>?_⟩
 refine Em C hi (by simp only[af,aK,dJ];omega) fun F s1 s2 s3 s z=>?_
 have d:({g with s1:=s1,s2:=s2,s3:=s3,ids:=a,lv:=g.lv.set y.k false++ [true],is:=g.is++ [j]}:WG).xs[i]? =some y:=v;refine⟨_,rfl,lN (s.xc d) (i:=5) (by simp) rfl fun q m o=>?_⟩
 have b:=s.xset d (y':={y with k:=g.is.length}) o rfl m;exact D q s1 s2 s3 b.1 ((A.tr z).tr b.2)
theorem Ie(w:Ws (SW c g) h pb cb cap ids kk x n es)(hi:g.ids= []){K:Int×Int→ad→Prop}(d:K (0,6) h):HC PG rF [.pointer (pA c.rb)] [.c (.int .i64),.c (.int .i64)] K h:=by
 refine Fg _ ?_;unfold zq bJ dH aM cp;have f:h[c.rb]? =some (.cells (JS c.N g.s1 g.s2 g.s3).toArray fO (0,0)):=w.own.get (i:=1) rfl;have o1:OwnS i1 1 gc (sb g.s1) h g.s1 g.ids:=w.own.get (i:=6) rfl;have b:=o1.len;rw[hi,cB]at b;refine⟨_,rfl,g.s1,vc f 1,CondP.intro (fun _=>d) fun a=>?_⟩
 rw[b]at a;exact absurd a (by simp)
theorem F3(w:Ws (SW c g) h pb cb cap ids kk x n es)(hi:g.ids= [])(r:Rt){K:Option Addr×Int→ad→Prop}(a:∀h',Upd No h h'→K (none,6) h'):HC PG sF [.pointer (pA c.rb),S9 r] [.c .ptr,.c (.int .i64)] K h:=by
 refine CR _ r ?_;unfold xg bh ah dK C9 Uq;exact aJ fun b b1 k1=>Ie (w.up0 k1) hi (ay.2 (a b k1))
theorem JT(w:Ws (SW c g) h pb cb cap ids kk x n es){j:Int}{a:List Int}(hi:g.ids=j::a)(o:g.ids.length≤1000∧g.lv.length≤1000∧g.is.length≤1000)(r:Rt){K:Option Addr×Int→ad→Prop}
  (p:∀h' s1 s2 s3 b,Ws (SW c {g with s1:=s1,s2:=s2,s3:=s3,ids:=a,lv:=g.lv++ [true],is:=g.is++ [j],xs:=g.xs++ [⟨b,g.is.length,r,false⟩]}) h' pb cb cap ids kk x n es→Mv (Un (AL (SW c g)) cb es) h (Un (AL (SW c {g with s1:=s1,s2:=s2,s3:=s3,ids:=a,lv:=g.lv++ [true],is:=g.is++ [j],xs:=g.xs++ [⟨b,g.is.length,r,false⟩]})) cb es) h'→K (pA b,0) h'):
  HC PG sF [.pointer (pA c.rb),S9 r] [.c .ptr,.c (.int .i64)] K h:=by
 refine CR _ r ?_;unfold xg bh ah dK C9 Uq;refine aJ fun v b1 k1=>Em (w.up0 k1) hi o fun d s1 s2 s3 q m=>aj.2 ?_
 have b3:=m.get b1 (w.wo.w0 (ao _));refine⟨_,vc b3 0,_,vc b3 1,_,vc b3 2,_,vc b3 3,r.2.2.2.2,vc b3 4,aJ fun u i s=>?_⟩
 have z:=aH i;have f:=q.push (s':=vM d.size (xL r g.is.length false) kD) s i fun y k=>by have k:y=d.size:=k;omega
 have e:SW c {g with s1:=s1,s2:=s2,s3:=s3,ids:=a,lv:=g.lv++ [true],is:=g.is++ [j]}++ [vM d.size (xL r g.is.length false) kD]=SW c {g with s1:=s1,s2:=s2,s3:=s3,ids:=a,lv:=g.lv++ [true],is:=g.is++ [j],xs:=g.xs++ [⟨d.size,g.is.length,r,false⟩]}:=by
  simp only[SW,List.cons_append,cR,List.map_cons,mX]
 rw[e]at f;exact p u s1 s2 s3 d.size f.1 (((Mv.of0 k1).tr m).tr f.2)
end
end Go.Proofs
namespace Go.Proofs
open Go Go.Lift
section
variable {c:WC} {g:WG} {h:ad} {pb cb cap n:Nat} {ids:List Int} {kk:Int} {x:Hs} {es:List Ed}
abbrev SE(c:WC)(g:WG):List Value:=Vt g.sl g.sm g.se g.sx (pA c.pb) (pA c.rb)
theorem Ws.cw(w:Ws (SW c g) h pb cb cap ids kk x n es):h[c.wb]? =some (.cells (SE c g).toArray fR (0,0)):=w.own.get (i:=0) rfl
set_option maxHeartbeats 1000000 in
theorem Ty(w:Ws (SW c g) h pb cb cap ids kk x n es)(t:Tr)(r:Rt)(hn:g.lt.length≤1000∧g.lr.length≤1000){K:Unit→ad→Prop}
  (hk:∀h' sl sm,Ws (SW c {g with sl:=sl,sm:=sm,lt:=g.lt++ [t],lr:=g.lr++ [r]}) h' pb cb cap ids kk x n es→Mv (Un (AL (SW c g)) cb es) h (Un (AL (SW c {g with sl:=sl,sm:=sm,lt:=g.lt++ [t],lr:=g.lr++ [r]})) cb es) h'→K () h'):
  HC PG iJ [.pointer (pA c.wb),GK t,S9 r] [] K h:=by
 refine Cf _ t r ?_;unfold uG bh ah aI aM cp rk pj dK DH C9 zF DT;refine aJ fun h1 b1 k1=>aJ fun h2 b2 k2=>?_
 have m:=k1.tr k2;have w2:=w.up0 m;have c1:=k2.get0 b1;have cw:=w2.cw;have fin:∀{L:ad} {sl sm:SliceV},Ws (((SW c g).set 2 (iw jT 6 aS sl (g.lt++ [t]))).set 3 (iw qt 5 bX sm (g.lr++ [r]))) L pb cb cap ids kk x n es→Mv (Un (AL (SW c g)) cb es) h (Un (AL (((SW c g).set 2 (iw jT 6 aS sl (g.lt++ [t]))).set 3 (iw qt 5 bX sm (g.lr++ [r])))) cb es) L→
   ∃a26:Addr,pA c.wb=some a26∧(Wr L (adr a26 0)∧At (hset L (adr a26 0) (.slice sl.a sl.len sl.cap)) fun h27=>∃a28:Addr,pA c.wb=some a28∧(Wr h27 (adr a28 1)∧At (hset h27 (adr a28 1) (.slice sm.a sm.len sm.cap)) fun h29=>K () h29)):=by
  intro L sl sm wC mC;have cC:L[c.wb]? =some (.cells (SE c g).toArray fR (0,0)):=wC.own.get (i:=0) rfl;refine⟨_,rfl,lN cC (i:=0) (by simp) rfl fun O b21 u21=>⟨_,rfl,lN b21 (i:=1) (by simp) rfl fun h23 b23 u23=>?_⟩⟩
  have P:=wC.cell (i:=0) (cs':=Vt sl sm g.se g.sx (pA c.pb) (pA c.rb)) rfl (u21.tr u23) b23;exact hk h23 sl sm P.1 (mC.tr P.2)
 have E:∀{s y},s∈SW c g→s.T y→y<h.size:=fun hs hy=>w.own.lt _ hs _ hy
 have z1:=aH b1;have z2:=aH b2;have s1:=k1.size;refine⟨_,rfl,g.sl,vc cw 0,_,vc c1 0,_,vc c1 1,_,vc c1 2,_,vc c1 3,_,vc c1 4,_,vc c1 5,_,rfl,g.sm,vc cw 1,_,vc b2 0,_,vc b2 1,_,vc b2 2,_,vc b2 3,r.2.2.2.2,vc b2 4,?_,?_⟩
 ·refine aJ fun h18 B o=>?_
  have k:=w2.up0 o;have b:=o.get0 b2;have u:=k.cw;have z18:=aH B;refine⟨⟨vc b 0,vc b 1,vc b 2,vc b 3,vc b 4⟩,vc u 1,vc u 0,?_,?_⟩
  ·refine j6 (f:=jT) (t:=t) (k.own.get (i:=2) rfl) B rfl rfl ⟨by omega,by omega⟩ (by omega) fun sl O o21 X hs21=>?_
   have J:=k.slice (i:=2) (xs:=g.lt) rfl X o21 hs21;have v:O[c.wb]? =some (.cells (SE c g).toArray fR (0,0)):=J.1.own.get (i:=0) rfl;have d:=X.get b fun hb=>by have:=E (az (i:=2) rfl) hb;omega
   refine⟨⟨vc d 0,vc d 1,vc d 2,vc d 3,vc d 4⟩,vc v 1,aJ fun h22 b22 I=>?_⟩
   have w22:=J.1.up0 I;refine⟨vc (I.get0 v) 1,j6 (f:=qt) (t:=r) (w22.own.get (i:=3) rfl) b22 rfl rfl ⟨by omega,by omega⟩ (by omega) fun sm h25 o25 k25 Y=>?_⟩
   have T:=w22.slice (i:=3) (xs:=g.lr) rfl k25 o25 Y;exact fin T.1 ((((Mv.of0 (m.tr o)).tr J.2).up0 I).tr T.2)
  ·refine aJ fun h30 b30 D=>?_
   have C:=k.up0 D;have z:=C.cw;refine⟨vc z 1,vc z 0,j6 (f:=jT) (t:=t) (C.own.get (i:=2) rfl) (D.get0 B) rfl rfl ⟨by omega,by omega⟩ (by omega) fun sl h33 o33 R N=>?_⟩
   have j:=C.slice (i:=2) (xs:=g.lt) rfl R o33 N;have cw33:h33[c.wb]? =some (.cells (SE c g).toArray fR (0,0)):=j.1.own.get (i:=0) rfl;have b33:=R.get b30 fun hb=>by have:=E (az (i:=2) rfl) hb;omega
   refine⟨vc cw33 1,j6 (f:=qt) (t:=r) (j.1.own.get (i:=3) rfl) b33 rfl rfl ⟨by omega,by omega⟩ (by omega) fun sm h36 o36 k36 hs36=>?_⟩
   have Q:=j.1.slice (i:=3) (xs:=g.lr) rfl k36 o36 hs36;exact fin Q.1 (((Mv.of0 ((m.tr o).tr D)).tr j.2).tr Q.2)
 ·refine aJ fun h41 Z F=>?_
  have W:=w2.up0 F;have A:=W.cw;have a:=F.get0 c1;have z41:=aH Z;refine⟨vc A 1,⟨vc a 0,vc a 1,vc a 2,vc a 3,vc a 4,vc a 5⟩,vc A 0,aJ fun h42 b42 H=>?_⟩
  have G:=W.up0 H;have q:=G.cw;refine⟨vc q 1,vc q 0,j6 (f:=jT) (t:=t) (G.own.get (i:=2) rfl) b42 rfl rfl ⟨by omega,by omega⟩ (by omega) fun sl h45 o45 k45 hs45=>?_⟩
  have p:=G.slice (i:=2) (xs:=g.lt) rfl k45 o45 hs45;have M:h45[c.wb]? =some (.cells (SE c g).toArray fR (0,0)):=p.1.own.get (i:=0) rfl;have b45:=k45.get (H.get0 Z) fun hb=>by have:=E (az (i:=2) rfl) hb;omega
  refine⟨vc M 1,j6 (f:=qt) (t:=r) (p.1.own.get (i:=3) rfl) b45 rfl rfl ⟨by omega,by omega⟩ (by omega) fun sm h48 o48 k48 S=>?_⟩
  have V:=p.1.slice (i:=3) (xs:=g.lr) rfl k48 o48 S;exact fin V.1 (((Mv.of0 ((m.tr F).tr H)).tr p.2).tr V.2)
end
def XOk(U:Nat→Prop)(h:ad)(kk:Int)(x:Hs)(g:WG)(e:Ed)(y:Xd):Prop:=y.fz=(!e.lv)∧RefIs U h kk x y.ru e.lu∧g.is[y.k]? =some e.ti∧g.lv[y.k]? =some e.lv
structure Wd(c:WC)(n:Nat)(h0 h:ad)(g:WG)(zs:List Vr)(es:List Ed):Prop where
 ws:Ws (SW c g) h c.pb c.cb c.cap g.ids c.kk c.x n es
 el:g.lt=zs.map (·.1)
 er:g.lr=zs.map (·.2.1)
 ee:g.le=es.map fun e=>pA e.eb
 ex:g.lx=g.xs.map fun y=>pA y.b
 lx:g.xs.length=es.length
 xw:∀(i:Nat) (e:Ed) (y:Xd),es[i]? =some e→g.xs[i]? =some y→XOk (c.U (SW c g) es) h c.kk c.x g e y
 xk:∀(i j:Nat) (a b:Xd),g.xs[i]? =some a→g.xs[j]? =some b→i≠j→a.k≠b.k
 zw:∀z∈zs,VrW (c.U (SW c g) es) h c.kk c.x n z
 sz:0<zs.length∧zs.length≤n+1∧es.length≤n∧g.is.length≤n∧g.lv.length=g.is.length∧c.cap≤4∧n≤100
 mv:Mv No h0 (c.U (SW c g) es) h
theorem VrW.mv{U a:Nat→Prop}{h b:ad}{kk:Int}{x:Hs}{n:Nat}{z:Vr}(v:VrW U h kk x n z)(m:Mv U h a b):VrW a b kk x n z:=⟨v.1.mv m,v.2.1.mv m,v.2.2⟩
theorem XOk.mv{U b:Nat→Prop}{h c:ad}{kk:Int}{x:Hs}{g a:WG}{e:Ed}{y:Xd}(o:XOk U h kk x g e y)(m:Mv U h b c)(d:a.is=g.is)(f:a.lv=g.lv):XOk b c kk x a e y:=⟨o.1,o.2.1.mv m,d▸o.2.2.1,f▸o.2.2.2⟩
section
variable {c:WC} {n:Nat} {h0 h h':ad} {g:WG} {zs:List Vr} {es:List Ed}
theorem Wd.up0(w:Wd c n h0 h g zs es)(k:Upd No h h'):Wd c n h0 h' g zs es:=
 ⟨w.ws.up0 k,w.el,w.er,w.ee,w.ex,w.lx,fun i e y a b=>(w.xw i e y a b).mv (.of0 k) rfl rfl,w.xk,fun z hz=>(w.zw z hz).mv (.of0 k),w.sz,w.mv.up0 k⟩
theorem Wd.mono(w:Wd c n h0 h g zs es){m:Nat}(hm:n≤m)(a:m≤100):Wd c m h0 h g zs es:=
 ⟨w.ws.mono hm,w.el,w.er,w.ee,w.ex,w.lx,w.xw,w.xk,fun z hz=>(w.zw z hz).mono hm,by have:=w.sz;omega,w.mv⟩
theorem Wd.keep(w:Wd c n h0 h g zs es)(d:zs.length≤n){z:Vr}(hz:VrW (c.U (SW c g) es) h c.kk c.x n z){sl sm:SliceV}(r:Ws (SW c {g with sl:=sl,sm:=sm,lt:=g.lt++ [z.1],lr:=g.lr++ [z.2.1]}) h' c.pb c.cb c.cap g.ids c.kk c.x n es)(m:Mv (c.U (SW c g) es) h (c.U (SW c {g with sl:=sl,sm:=sm,lt:=g.lt++ [z.1],lr:=g.lr++ [z.2.1]}) es) h'):
  Wd c n h0 h' {g with sl:=sl,sm:=sm,lt:=g.lt++ [z.1],lr:=g.lr++ [z.2.1]} (zs++ [z]) es:=by
 refine⟨r,by rw[cR,←w.el];rfl,by rw[cR,←w.er];rfl,w.ee,w.ex,w.lx,fun i e y b a=>(w.xw i e y b a).mv m rfl rfl,w.xk,fun y a=>?_,?_,w.mv.tr m⟩
 ·rcases bW.1 a with a|a
  ·exact(w.zw y a).mv m
  ·rw[au.1 a];exact hz.mv m
 ·have:=w.sz
  simp only[af,aK];omega
end
end Go.Proofs
namespace Go.Proofs
open Go Go.Lift
abbrev Sq:=Int×Int×Int×ByteArray×ByteArray×Int
abbrev Wf(a:Sq):Value:=.agg #[.int .u8 a.1,.int .u8 a.2.1,.int .u8 a.2.2.1,.string a.2.2.2.1,.string a.2.2.2.2.1,.int .u16 a.2.2.2.2.2]
def Lo(a:Sq):Prop:=(0≤a.1∧a.1≤255)∧(0≤a.2.1∧a.2.1≤255)∧(0≤a.2.2.1∧a.2.2.1≤255)∧(0≤a.2.2.2.2.2∧a.2.2.2.2.2≤65535)
theorem Qn{v:Int}{n:Nat}(b:0≤v)(c:v≤65535)(a:0<n):∃k:Nat,aZ (IntKind.wrap .i64 v) (n:Int)=(k:Int)∧k<n:=by
 refine⟨(v.toNat%n),?_,Nat.mod_lt _ a⟩;rw[oD (by omega),Int.tmod_eq_emod_of_nonneg b];conv=>lhs;rw[show v=((v.toNat:Nat):Int) by omega]
 rfl
section
variable {c:WC} {n:Nat} {h0 h h':ad} {g:WG} {zs:List Vr} {es:List Ed}
theorem Wd.rows(w:Wd c n h0 h g zs es):g.sl.len=zs.length∧g.sm.len=zs.length∧g.se.len=es.length∧g.sx.len=es.length∧g.s1.len=g.ids.length∧g.s2.len=g.lv.length∧g.s3.len=g.is.length:=by
 have a:g.sl.len=g.lt.length:=(w.ws.own.get (i:=2) rfl:OwnS jT 6 aS (sb g.sl) h g.sl g.lt).len;have b:g.sm.len=g.lr.length:=(w.ws.own.get (i:=3) rfl:OwnS qt 5 bX (sb g.sm) h g.sm g.lr).len;have d:g.se.len=g.le.length:=(w.ws.own.get (i:=4) rfl:OwnS p1 1 fc (sb g.se) h g.se g.le).len;have e:g.sx.len=g.lx.length:=(w.ws.own.get (i:=5) rfl:OwnS p1 1 gd (sb g.sx) h g.sx g.lx).len
 rw[w.el,c7]at a;rw[w.er,c7]at b;rw[w.ee,c7]at d;rw[w.ex,c7,w.lx]at e;exact⟨a,b,d,e,(w.ws.own.get (i:=6) rfl:OwnS i1 1 gc (sb g.s1) h g.s1 g.ids).len,(w.ws.own.get (i:=7) rfl:OwnS SA 1 jF (sb g.s2) h g.s2 g.lv).len,(w.ws.own.get (i:=8) rfl:OwnS i1 1 gc (sb g.s3) h g.s3 g.is).len⟩
theorem Wd.t(w:Wd c n h0 h g zs es){k:Nat}{z:Vr}(hz:zs[k]? =some z):∃a,g.sl.a=some a∧∀j v,(jT z.1)[j]? =some v→aR h (adr (adr a (k*6)) j)=some v:=by
 have o:OwnS jT 6 aS (sb g.sl) h g.sl g.lt:=w.ws.own.get (i:=2) rfl;obtain⟨a,b,_,d⟩:=(o.sl (W:=No) fun _ _ _ h=>h).at (i:=k) (x:=z.1) (by rw[w.el,eu,hz];rfl)
 exact⟨a,b,d⟩
theorem Wd.r(w:Wd c n h0 h g zs es){k:Nat}{z:Vr}(hz:zs[k]? =some z):∃a,g.sm.a=some a∧∀j v,(qt z.2.1)[j]? =some v→aR h (adr (adr a (k*5)) j)=some v:=by
 have o:OwnS qt 5 bX (sb g.sm) h g.sm g.lr:=w.ws.own.get (i:=3) rfl;obtain⟨a,b,_,d⟩:=(o.sl (W:=No) fun _ _ _ h=>h).at (i:=k) (x:=z.2.1) (by rw[w.er,eu,hz];rfl)
 exact⟨a,b,d⟩
theorem Wd.e(w:Wd c n h0 h g zs es){k:Nat}{e:Ed}(b:es[k]? =some e):∃a,g.se.a=some a∧aR h (adr a (k*1))=some (.pointer (pA e.eb)):=by
 have o:OwnS p1 1 fc (sb g.se) h g.se g.le:=w.ws.own.get (i:=4) rfl;obtain⟨a,d,_,f⟩:=(o.sl (W:=No) fun _ _ _ h=>h).at0 (i:=k) (x:=pA e.eb) (by rw[w.ee,eu,b];rfl)
 exact⟨a,d,f⟩
theorem Wd.x(w:Wd c n h0 h g zs es){k:Nat}{y:Xd}(b:g.xs[k]? =some y):∃a,g.sx.a=some a∧aR h (adr a (k*1))=some (.pointer (pA y.b)):=by
 have o:OwnS p1 1 gd (sb g.sx) h g.sx g.lx:=w.ws.own.get (i:=5) rfl;obtain⟨a,d,_,f⟩:=(o.sl (W:=No) fun _ _ _ h=>h).at0 (i:=k) (x:=pA y.b) (by rw[w.ex,eu,b];rfl)
 exact⟨a,d,f⟩
theorem Wd.more(w:Wd c n h0 h g zs es)(I:n+1≤100){z:Vr}(hz:z∈zs){j:Int}{d:List Int}{eb tb b:Nat}{s1 s2 s3 se sx:SliceV}
  (r:Ws (SW c {g with s1:=s1,s2:=s2,s3:=s3,ids:=d,lv:=g.lv++ [true],is:=g.is++ [j],xs:=g.xs++ [⟨b,g.is.length,z.2.1,false⟩],se:=se,sx:=sx,le:=g.le++ [pA eb],lx:=g.lx++ [pA b]}) h' c.pb c.cb c.cap d c.kk c.x n (es++ [⟨eb,tb,j,true,z.1,z.2.2,No⟩]))
  (m:Mv (c.U (SW c g) es) h (c.U (SW c {g with s1:=s1,s2:=s2,s3:=s3,ids:=d,lv:=g.lv++ [true],is:=g.is++ [j],xs:=g.xs++ [⟨b,g.is.length,z.2.1,false⟩],se:=se,sx:=sx,le:=g.le++ [pA eb],lx:=g.lx++ [pA b]}) (es++ [⟨eb,tb,j,true,z.1,z.2.2,No⟩])) h'):
  Wd c (n+1) h0 h' {g with s1:=s1,s2:=s2,s3:=s3,ids:=d,lv:=g.lv++ [true],is:=g.is++ [j],xs:=g.xs++ [⟨b,g.is.length,z.2.1,false⟩],se:=se,sx:=sx,le:=g.le++ [pA eb],lx:=g.lx++ [pA b]} zs (es++ [⟨eb,tb,j,true,z.1,z.2.2,No⟩]):=by
 have sz:=w.sz;have f:∀{α:Type} {l:List α} {a:α} {i:Nat} {v:α},(l++ [a])[i]? =some v→(l[i]? =some v∧i<l.length)∨(i=l.length∧v=a):=fun{α l a i v} hv=>by
  rw[mo]at hv;split at hv
  ·rename_i o;exact .inl ⟨hv,o⟩
  ·have:i-l.length=0:=by have:=(aF.1 hv).1;simp only[aK]at this;omega
   rw[this]at hv;cases hv;exact .inr ⟨by omega,rfl⟩
 have kl:∀{i:Nat} {y:Xd},g.xs[i]? =some y→y.k<g.is.length:=fun{i y} k=>by
  have o:=(aF.1 k).1;rw[w.lx]at o;exact(aF.1 (w.xw i es[i] y (ag o) k).2.2.1).1
 refine⟨r.mono (fY _),w.el,w.er,?_,?_,?_,fun i e y A k=>?_,fun i D a b p q u=>?_,fun z hz=>((w.zw z hz).mv m).mono (fY _),?_,w.mv.tr m⟩
 ·rw[cR,←w.ee];rfl
 ·show g.lx++ [pA b]=(g.xs++ [_]).map _
  rw[cR,←w.ex];rfl
 ·show(g.xs++ [_]).length=(es++ [_]).length
  rw[af,af,w.lx];rfl
 ·rcases f A with⟨A,o⟩|⟨F,rfl⟩<;>rcases f k with⟨k,s⟩|⟨B,rfl⟩
  ·obtain⟨C,H,E,G⟩:=w.xw i e y A k
   refine⟨C,H.mv m,?_,?_⟩
   ·show(g.is++ [j])[y.k]? =_
    rw[cq (kl k)];exact E
   ·show(g.lv++ [true])[y.k]? =_
    rw[cq (by have:=kl k;omega)];exact G
  ·rw[w.lx]at B;omega
  ·rw[w.lx]at s;omega
  ·refine⟨rfl,(w.zw z hz).2.1.mv m,?_,?_⟩
   ·show(g.is++ [j])[g.is.length]? =_
    simp
   ·show(g.lv++ [true])[g.is.length]? =_
    rw[←sz.2.2.2.2.1];simp
 ·rcases f p with⟨p,_⟩|⟨F,rfl⟩<;>rcases f q with⟨q,_⟩|⟨B,rfl⟩
  ·exact w.xk i D a b p q u
  ·have:=kl p;show a.k≠g.is.length;omega
  ·have:=kl q;show g.is.length≠b.k;omega
  ·omega
 ·simp only[af,aK]
  omega
set_option maxHeartbeats 2000000 in
theorem GG(w:Wd c n h0 h g zs es)(hn:n+1≤100)(a:Sq)(ha:Lo a){K:Bool→ad→Prop}(hk:∀h' g' es',es.length≤es'.length→(g.ids≠[]→0<es'.length)→(∀e∈es',e∈es∨e.lv=true)→Wd c (n+1) h0 h' g' zs es'→K true h'):HC PG lI [.pointer (pA c.wb),Wf a] [.c .bool] K h:=by
 refine AS _ a ?_;unfold tl bJ dH lX aM cp xn GH f9 Wl;have sz:=w.sz;obtain⟨l1,l2,l3,l4,l5,l6,l7⟩:=w.rows;obtain⟨k,ek,hkl⟩:=Qn ha.2.2.1.1 (by have:=ha.2.2.1.2;omega) sz.1;refine aJ fun h1 b1 k1=>?_
 have J:=w.up0 k1;have cw:=J.ws.cw;refine⟨_,vc b1 2,_,rfl,g.sl,vc cw 0,?_⟩;rw[l1,ek];have hz:zs[k]? =some zs[k]:=ag hkl;have L:=List.getElem_mem hkl;generalize zs[k]=z at hz L;obtain⟨at_,hat,s⟩:=J.t hz;refine⟨by omega,_,rfl,_,vc cw 4,_,rfl,g.sl,vc cw 0,⟨by omega,by omega⟩,at_,hat,_,s 0 _ rfl,_,s 1 _ rfl,_,s 2 _ rfl,_,s 3 _ rfl,_,s 4 _ rfl,_,s 5 _ rfl,?_⟩
 have vz:=J.zw z L;cases hi:g.ids with
 |nil=>
  have pl:=J.ws.wo.pl;rw[hi]at pl;refine IB pl z.1 fun h17 k17=>?_
  have p:=J.up0 k17;have d:=p.ws.cw;obtain⟨ar,R,m⟩:=p.r hz;refine⟨vc d 0,_,rfl,_,vc d 5,_,rfl,g.sm,vc d 1,⟨by omega,by omega⟩,ar,R,_,m 0 _ rfl,_,m 1 _ rfl,_,m 2 _ rfl,_,m 3 _ rfl,z.2.1.2.2.2.2,m 4 _ rfl,?_⟩
  refine F3 p.ws hi z.2.1 fun h29 k29=>⟨vc (p.up0 k29).ws.cw 1,Join.plain (aj.2 (aj.2 (aj.2 ?_)))⟩
  exact hk _ g es (ao _) (fun h=>absurd hi h) (fun e Z=>.inl Z) ((p.up0 k29).mono (fY _) hn)
 |cons j ids2=>
  refine SD J.ws.wo hi vz.1 vz.2.2.1 vz.2.2.2.1 vz.2.2.2.2 fun h17 eb tb p m17=>?_
  have u:=J.ws.ed p m17;have d:=u.cw;have o17:OwnS qt 5 bX (sb g.sm) h17 g.sm g.lr:=u.own.get (i:=3) rfl;obtain⟨ar,R,_,m⟩:=(o17.sl (W:=No) fun _ _ _ h=>h).at (i:=k) (x:=z.2.1) (by rw[w.er,eu,hz];rfl)
  refine⟨vc d 0,_,rfl,_,vc d 5,_,rfl,g.sm,vc d 1,⟨by omega,by omega⟩,ar,R,_,m 0 _ rfl,_,m 1 _ rfl,_,m 2 _ rfl,_,m 3 _ rfl,z.2.1.2.2.2.2,m 4 _ rfl,?_⟩
  have hids:g.ids.length≤4:=by have:=w.ws.wo.rm;omega
  refine JT u hi (by omega) z.2.1 fun h29 s1 s2 s3 b o m29=>?_
  have q:=o.cw;refine⟨vc q 1,Join.plain (aj.2 (aj.2 (ay.2 ?_)))⟩;generalize eg:({g with s1:=s1,s2:=s2,s3:=s3,ids:=ids2,lv:=g.lv++ [true],is:=g.is++ [j],xs:=g.xs++ [⟨b,g.is.length,z.2.1,false⟩]}:WG)=g1 at o m29 q;have A:g1.se=g.se∧g1.sx=g.sx∧g1.le=g.le∧g1.lx=g.lx:=by rw[←eg];exact⟨rfl,rfl,rfl,rfl⟩
  have hlen:g.le.length+1≤1000∧g.lx.length+1≤1000:=by
   rw[w.ee,w.ex,c7,c7,w.lx];omega
  have H:=((Mv.of0 k1).tr m17.1).tr m29;have fin:∀{V:ad} {se sx:SliceV},Ws (((SW c g1).set 4 (iw p1 1 fc se (g1.le++ [pA eb]))).set 5 (iw p1 1 gd sx (g1.lx++ [pA b]))) V c.pb c.cb c.cap ids2 c.kk c.x n (es++ [⟨eb,tb,j,true,z.1,z.2.2,No⟩])→Mv (c.U (SW c g1) (es++ [⟨eb,tb,j,true,z.1,z.2.2,No⟩])) h29 (c.U (((SW c g1).set 4 (iw p1 1 fc se (g1.le++ [pA eb]))).set 5 (iw p1 1 gd sx (g1.lx++ [pA b]))) (es++ [⟨eb,tb,j,true,z.1,z.2.2,No⟩])) V→
    ∃a45:Addr,pA c.wb=some a45∧(Wr V (adr a45 2)∧At (hset V (adr a45 2) (.slice se.a se.len se.cap)) fun h46=>∃a47:Addr,pA c.wb=some a47∧(Wr h46 (adr a47 3)∧At (hset h46 (adr a47 3) (.slice sx.a sx.len sx.cap)) fun h48=>K true h48)):=by
   intro V se sx wC mC;have cC:V[c.wb]? =some (.cells (SE c g1).toArray fR (0,0)):=wC.own.get (i:=0) rfl;refine⟨_,rfl,lN cC (i:=2) (by simp) rfl fun h21 b21 u21=>⟨_,rfl,lN b21 (i:=3) (by simp) rfl fun h23 b23 u23=>?_⟩⟩
   have r23:=wC.cell (i:=0) (cs':=Vt g1.sl g1.sm se sx (pA c.pb) (pA c.rb)) rfl (u21.tr u23) b23;have mm:=(H.tr mC).tr r23.2;have rr:=r23.1;subst eg;exact hk h23 _ _ (by simp) (fun _=>by simp) (fun e Z=>(bW.1 Z).imp id fun Z=>by rw[au.1 Z]) (w.more hn L (s1:=s1) (s2:=s2) (s3:=s3) (se:=se) (sx:=sx) rr mm)
  have e1:g1.se.a=g.se.a∧g1.se.len=g.se.len∧g1.se.cap=g.se.cap∧g1.sx.a=g.sx.a∧g1.sx.len=g.sx.len∧g1.sx.cap=g.sx.cap:=by rw[A.1,A.2.1];exact⟨rfl,rfl,rfl,rfl,rfl,rfl⟩
  have hlen1:g1.le.length+1≤1000∧g1.lx.length+1≤1000:=by rw[A.2.2.1,A.2.2.2];exact hlen
  refine⟨_,rfl,g1.se,vc q 2,_,rfl,g1.sx,vc q 3,?_,?_⟩
  ·refine aJ fun h37 Q S=>?_
   have v:=o.up0 S;have F:=v.cw;have z37:=aH Q;refine⟨vc F 3,vc F 2,?_,?_⟩
   ·refine j6 (f:=p1) (t:=pA eb) (v.own.get (i:=4) rfl) Q rfl rfl ⟨by omega,by omega⟩ (by omega) fun se h40 o40 k40 hs40=>?_
    have I:=v.slice (i:=4) (xs:=g1.le) rfl k40 o40 hs40;have G:h40[c.wb]? =some (.cells (SE c g1).toArray fR (0,0)):=I.1.own.get (i:=0) rfl;refine⟨vc G 3,aJ fun h41 b41 O=>?_⟩
    have w41:=I.1.up0 O;refine⟨vc (O.get0 G) 3,j6 (f:=p1) (t:=pA b) (w41.own.get (i:=5) rfl) b41 rfl rfl ⟨by omega,by omega⟩ (by omega) fun sx h44 o44 k44 hs44=>?_⟩
    have r44:=w41.slice (i:=5) (xs:=g1.lx) rfl k44 o44 hs44;exact fin r44.1 ((((Mv.of0 S).tr I.2).up0 O).tr r44.2)
   ·refine aJ fun h49 b49 T=>?_
    have M:=v.up0 T;have D:=M.cw;have z49:=aH b49;refine⟨vc D 3,vc D 2,j6 (f:=p1) (t:=pA eb) (M.own.get (i:=4) rfl) (T.get0 Q) rfl rfl ⟨by omega,by omega⟩ (by omega) fun se h52 o52 k52 hs52=>?_⟩
    have B:=M.slice (i:=4) (xs:=g1.le) rfl k52 o52 hs52;have X:h52[c.wb]? =some (.cells (SE c g1).toArray fR (0,0)):=B.1.own.get (i:=0) rfl;have b52:=k52.get b49 fun hb=>by have:=v.own.lt _ (az (i:=4) rfl) _ hb;omega
    refine⟨vc X 3,j6 (f:=p1) (t:=pA b) (B.1.own.get (i:=5) rfl) b52 rfl rfl ⟨by omega,by omega⟩ (by omega) fun sx h55 o55 k55 hs55=>?_⟩
    have r55:=B.1.slice (i:=5) (xs:=g1.lx) rfl k55 o55 hs55;exact fin r55.1 (((Mv.of0 (S.tr T)).tr B.2).tr r55.2)
  ·refine aJ fun h60 b60 k60=>?_
   have w60:=o.up0 k60;have C:=w60.cw;have z60:=aH b60;refine⟨vc C 3,vc C 2,aJ fun h61 b61 N=>?_⟩
   have P:=w60.up0 N;have E:=P.cw;refine⟨vc E 3,vc E 2,j6 (f:=p1) (t:=pA eb) (P.own.get (i:=4) rfl) b61 rfl rfl ⟨by omega,by omega⟩ (by omega) fun se h64 o64 k64 hs64=>?_⟩
   have y:=P.slice (i:=4) (xs:=g1.le) rfl k64 o64 hs64;have Y:h64[c.wb]? =some (.cells (SE c g1).toArray fR (0,0)):=y.1.own.get (i:=0) rfl;have b64:=k64.get (N.get0 b60) fun hb=>by have:=o.own.lt _ (az (i:=4) rfl) _ hb;omega
   refine⟨vc Y 3,j6 (f:=p1) (t:=pA b) (y.1.own.get (i:=5) rfl) b64 rfl rfl ⟨by omega,by omega⟩ (by omega) fun sx h67 o67 k67 hs67=>?_⟩
   have r67:=y.1.slice (i:=5) (xs:=g1.lx) rfl k67 o67 hs67;exact fin r67.1 (((Mv.of0 (k60.tr N)).tr y.2).tr r67.2)
end
end Go.Proofs
namespace Go.Proofs
open Go Go.Lift
def VL(b o t:Option ByteArray)(p:Int):Option ByteArray×Bool:=if o=t∨t=b then(o,true)else if o=b then(t,true)else if p=1 then(o,false)else if p=2 then(t,false)else(b,false)
def tk(B O T:List Pr)(p:Int)(k:ByteArray):Option ByteArray×Bool:=VL (look B k) (look O k) (look T k) p
end Go.Proofs
namespace Go.Proofs
open Go Go.Lift
end Go.Proofs
namespace Go.Proofs
open Go Go.Lift
end Go.Proofs
namespace Go.Proofs
open Go Go.Lift
theorem QI{W:Nat→Prop}{h:ad}{s:SliceV}{l:List Pr}(g:Sl ge 2 W h s l)(a:cA l)(b:Fit l)(c:l.length≤1000000)(k:ByteArray){K:ByteArray×Bool→ad→Prop}
  (d:K ((look l k).getD ⟨#[]⟩,(look l k).isSome) h):HC PG uh [.slice s.a s.len s.cap,.string k] [.c .str,.c .bool] K h:=
 NO g a b c k fun v f i=>by rw[←N1 a f i];exact d
end Go.Proofs
namespace Go.Proofs
open Go Go.Lift
theorem Ho{h:ad}{eb pb tb:Nat}{tu:Tr}{ti:Int}(e:EdAt h eb pb tb tu)(k:TokAt h tb pb ti false){K:Tr×Int→ad→Prop}(i:∀h',Upd No h h'→K (vI,5) h'):HC PG iK [.pointer (some ⟨eb,0,none⟩)] Lu K h:=by
 refine uq _ ?_;unfold pL bh ah aI eK cp nv rk pj zF f9;refine aJ fun n b1 k1=>wX (e.upd k1 id) (k.upd k1 id) fun o d=>pB (t:=vI) fun m b f=>Join.plain (aj.2 ?_)
 refine⟨_,vc b 0,_,vc b 1,_,vc b 2,_,vc b 3,_,vc b 4,_,vc b 5,?_⟩;refine cS (c:=jT vI) (vs:=jT vI) ((d.tr f).get0 b1) rfl fun j a g=>?_
 exact⟨_,vc a 0,_,vc a 1,_,vc a 2,_,vc a 3,_,vc a 4,_,vc a 5,i j ((k1.tr (d.tr f)).own g (ao _))⟩
section
variable {c:WC} {n k:Nat} {h0 h h':ad} {g:WG} {zs:List Vr} {es:List Ed} {e e':Ed} {y y':Xd}
theorem Wd.set(w:Wd c n h0 h g zs es)(V:n+1≤100)(G:es[k]? =some e) (s:g.xs[k]? =some y) {s1 s2 s3:SliceV} {ids' is':List Int} {lv':List Bool}
  (r:Ws (SW c {g with s1:=s1,s2:=s2,s3:=s3,ids:=ids',lv:=lv',is:=is',xs:=g.xs.set k y'}) h' c.pb c.cb c.cap ids' c.kk c.x (n+1) (es.set k e'))
  (m:Mv (c.U (SW c g) es) h (c.U (SW c {g with s1:=s1,s2:=s2,s3:=s3,ids:=ids',lv:=lv',is:=is',xs:=g.xs.set k y'}) (es.set k e')) h') (F:e'.eb=e.eb) (N:y'.b=y.b)
  (hx:XOk (c.U (SW c {g with s1:=s1,s2:=s2,s3:=s3,ids:=ids',lv:=lv',is:=is',xs:=g.xs.set k y'}) (es.set k e')) h' c.kk c.x {g with s1:=s1,s2:=s2,s3:=s3,ids:=ids',lv:=lv',is:=is',xs:=g.xs.set k y'} e' y')
  (H:is'.length≤n+1∧lv'.length=is'.length) (O:∀(i:Nat) (b:Xd),i≠k→g.xs[i]? =some b→is'[b.k]? =g.is[b.k]?∧lv'[b.k]? =g.lv[b.k]?) (S:y'.k=y.k∨g.is.length≤y'.k):
  Wd c (n+1) h0 h' {g with s1:=s1,s2:=s2,s3:=s3,ids:=ids',lv:=lv',is:=is',xs:=g.xs.set k y'} zs (es.set k e'):=by
 have D:k<es.length:=(aF.1 G).1;have v:k<g.xs.length:=(aF.1 s).1;have kl:∀{i:Nat} {y:Xd},g.xs[i]? =some y→y.k<g.is.length:=fun{i y} s=>by
  have K:=(aF.1 s).1;rw[w.lx]at K;exact(aF.1 (w.xw i es[i] y (ag K) s).2.2.1).1
 have same:∀{α β:Type} {f:α→β} {l:List α} {a b:α} {i:Nat},l[i]? =some a→f b=f a→(l.set i b).map f=l.map f:=fun{α β f l a b i} A B=>by
  refine List.ext_getElem? fun j=>?_
  rw[eu,eu,List.getElem?_set];split
  ·rename_i e;subst e
   rw[if_pos (aF.1 A).1,A];simp[B]
  ·rfl
 refine⟨r,w.el,w.er,?_,?_,?_,fun i T u q d=>?_,fun i j a b p C E=>?_,fun z hz=>((w.zw z hz).mv m).mono (fY _),?_,w.mv.tr m⟩
 ·rw[same G (by rw[F])];exact w.ee
 ·show g.lx=(g.xs.set k y').map _
  rw[same s (by rw[N])];exact w.ex
 ·show(g.xs.set k y').length=(es.set k e').length
  rw[dJ,dJ,w.lx]
 ·by_cases o:i=k
  ·subst o
   rw[dR D]at q;have d:(g.xs.set i y')[i]? =some u:=d;rw[dR v]at d;cases q;cases d;exact hx
  ·rw[eB (Ne.symm o)]at q
   have d:(g.xs.set k y')[i]? =some u:=d;rw[eB (Ne.symm o)]at d;obtain⟨Q,M,R,L⟩:=w.xw i T u q d;obtain⟨o1,o2⟩:=O i u o d;exact⟨Q,M.mv m,by show is'[u.k]? =_;rw[o1];exact R,by show lv'[u.k]? =_;rw[o2];exact L⟩
 ·have val:∀{j:Nat} {a:Xd},(g.xs.set k y')[j]? =some a→(j=k∧a=y')∨(j≠k∧g.xs[j]? =some a):=fun{j a} p=>by
   by_cases e:j=k
   ·subst e;rw[dR v]at p;cases p;exact .inl ⟨rfl,rfl⟩
   ·rw[eB (Ne.symm e)]at p;exact .inr ⟨e,p⟩
  have one:∀{j:Nat} {a:Xd},j≠k→g.xs[j]? =some a→a.k≠y'.k:=fun{j a} P p=>by
   rcases S with h|h
   ·rw[h];exact w.xk j k a y p s P
   ·have:=kl p;omega
  rcases val p with⟨A,rfl⟩|⟨A,I⟩<;>rcases val C with⟨B,rfl⟩|⟨B,J⟩
  ·omega
  ·exact Ne.symm (one B J)
  ·exact one A I
  ·exact w.xk i j a b I J E
 ·have:=w.sz
  simp only[dJ];omega
theorem Wd.ru(w:Wd c n h0 h g zs es)(p:n+1≤100)(i:es[k]? =some e) (o:g.xs[k]? =some y) {a:Rt} (r:Ws (SW c {g with xs:=g.xs.set k {y with ru:=a}}) h' c.pb c.cb c.cap g.ids c.kk c.x (n+1) (es.set k e'))
  (m:Mv (c.U (SW c g) es) h (c.U (SW c {g with xs:=g.xs.set k {y with ru:=a}}) (es.set k e')) h') (f:e'.eb=e.eb) (d:e'.ti=e.ti) (b:e'.lv=e.lv) (j:RefIs (c.U (SW c {g with xs:=g.xs.set k {y with ru:=a}}) (es.set k e')) h' c.kk c.x a e'.lu):
  Wd c (n+1) h0 h' {g with xs:=g.xs.set k {y with ru:=a}} zs (es.set k e'):=by
 have x:=w.xw k e y i o;have sz:=w.sz;exact w.set p i o (s1:=g.s1) (s2:=g.s2) (s3:=g.s3) (ids':=g.ids) (is':=g.is) (lv':=g.lv) (y':={y with ru:=a}) r m f rfl ⟨by rw[b];exact x.1,j,by rw[d];exact x.2.2.1,by rw[b];exact x.2.2.2⟩ ⟨by omega,by omega⟩ (fun _ _ _ _=>⟨rfl,rfl⟩) (.inl rfl)
end
end Go.Proofs
