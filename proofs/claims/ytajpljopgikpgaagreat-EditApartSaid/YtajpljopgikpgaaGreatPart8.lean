/- A part of the proof that the named laws of this program answer true, whatever the input. -/
import Derived.Test.YtajpljopgikpgaaGreatPart7
open Int renaming tmod→jT
open List renaming mem_of_getElem?→au,length_singleton→bd,range→bW,getElem?_eq_some_iff→aP,getElem?_of_mem→ff,getElem?_append→iQ,mem_append→bA,mem_singleton→ai,mem_cons→ar,not_mem_nil→lV,getElem?_append_right→bI,set_append_right→lA,getElem?_eq_getElem→aj,mem_cons_self→ax,mem_cons_of_mem→aI
open List.Pairwise renaming nil→fq
open Nat renaming le_refl→aw,zero_le→bD,lt_of_lt_of_le→bv
namespace Go.Proofs
open Go Go.Lift
theorem Aa{e:Ed}:∀{es:List Ed} {i:Nat},es[i]? =some e→e.lv=true→1≤oc es
 |a::es,0,h,hl=>by cases h;simp only[oc];rw[if_pos hl];omega
 |a::es,i+1,h,hl=>by
  have:=Aa (es:=es) (i:=i) (by simpa using h) hl;simp only[oc];omega
 | [],i,h,hl=>by simp at h
section
variable {A:Nat→Prop} {h:ae} {pb cb cap n:Nat} {ids:List Int} {kind:Int} {x:Hs} {es:List Ed} {i:Nat} {e:Ed}
theorem Jv(w:Wo A h pb cb cap ids kind x n es)(d:es[i]? =some e) (f:e.lv=true) (o:n≤1000) (p:Pr) (j:p.1.size≤5030∧p.2.size≤5030) {K:Int→ae→Prop}
  (m:∀b a c,Wo A b pb cb cap ids kind x (n+1) (es.set i {e with tu:=a,lu:=lw e.lu p,S:=c})→Me A cb es h (es.set i {e with tu:=a,lu:=lw e.lu p,S:=c}) b→K (AO p) b):HC PG ez [.pointer (some ⟨e.eb,0,none⟩),.agg #[.string p.1,.string p.2]] [.c (.int .i64)] K h:=by
 have q:=w.ew e (au d);have wl:=BQ q.up q.fit q.len j;exact CN (w.edO d f) (by have:=q.len;omega) p (fun b a c e' k g=>let r:=w.goes d f e' k g (Nat.le_succ n) wl.2.2;m b a c r.1 r.2) wl.2.1
theorem JM(w:Wo A h pb cb cap ids kind x n es)(d:es[i]? =some e) (f:e.lv=true) (m:n≤1000) (k:ByteArray) {K:Int→ae→Prop}
  (j:∀b a c,Wo A b pb cb cap ids kind x (n+1) (es.set i {e with tu:=a,lu:=nn e.lu k,S:=c})→Me A cb es h (es.set i {e with tu:=a,lu:=nn e.lu k,S:=c}) b→K (Bi e.lu k) b):HC PG jk [.pointer (some ⟨e.eb,0,none⟩),.string k] [.c (.int .i64)] K h:=by
 have q:=w.ew e (au d);have wl:=HH (k:=k) q.up q.fit q.len;exact Gm (w.edO d f) (by have:=q.len;omega) k (fun b a c e' k g=>let r:=w.goes d f e' k g (Nat.le_succ n) wl.2.2;j b a c r.1 r.2)
theorem FI(w:Wo A h pb cb cap ids kind x n es)(b:es[i]? =some e) (c:e.lv=true) {K:Tr×Int→ae→Prop}
  (f:∀a,Wo A a pb cb cap (ids++ [e.ti]) kind x n (es.set i {e with lv:=false,S:=No})→Me A cb es h (es.set i {e with lv:=false,S:=No}) a→TreeIs (Un A cb (es.set i {e with lv:=false,S:=No})) a kind x e.tu e.lu→K (e.tu,0) a):gS (some ⟨e.eb,0,none⟩) K h:=by
 have q:=w.ew e (au b);have hv:=Aa b c;refine yC q.ed (c▸q.tk) w.pl (by have:=w.rm;omega) fun a k p t ed=>?_
 have r:=w.turn (tb':=e.tb) (ti':=e.ti) (lv':=false) b c (k.mono fun y d=>.inl (d.imp id .inl)) p (by simp) ed t t (.inl ⟨rfl,rfl⟩)
 exact f a r.1 r.2.1 r.2.2
theorem BP(w:Wo A h pb cb cap ids kind x n es)(a:es[i]? =some e) (b:e.lv=true) {K:Tr×Int→ae→Prop}
  (c:∀h',Wo A h' pb cb cap (ids++ [e.ti]) kind x n (es.set i {e with lv:=false,S:=No})→Me A cb es h (es.set i {e with lv:=false,S:=No}) h'→TreeIs (Un A cb (es.set i {e with lv:=false,S:=No})) h' kind x e.tu e.lu→K (e.tu,0) h'):HC PG eR [.pointer (some ⟨e.eb,0,none⟩)] JT K h:=
 nz _ (FI w a b c)
theorem ES(w:Wo A h pb cb cap ids kind x n es){j:Int}{ids2:List Int}(hi:ids=j::ids2){t:Tr}{l:List Pr}(c:TreeIs (Un A cb es) h kind x t l)(up:cq l)(fit:Fit l)(len:l.length≤n){K:Option Addr×Int→ae→Prop}
  (e:∀a eb tb,Wo A a pb cb cap ids2 kind x n (es++ [⟨eb,tb,j,true,t,l,No⟩])→Me A cb es h (es++ [⟨eb,tb,j,true,t,l,No⟩]) a→K (some ⟨eb,0,none⟩,0) a):HC PG jl [.pointer (some ⟨pb,0,none⟩),EX t] [.c .ptr,.c (.int .i64)] K h:=by
 subst hi;refine yD w.pl t fun a eb tb k p tk ed b d=>?_
 have r:=w.begin rfl k p tk ed b d c up fit len;exact e a eb tb r.1 r.2
theorem JU{U:Nat→Prop}(q:EdW U h pb kind x n e):By h (some ⟨e.tb,0,none⟩) (tok e):=q.tk.by_
theorem EdW.is{U:Nat→Prop}(q:EdW U h pb kind x n e):TreeIs No h kind x e.tu e.lu:=q.iu.read (JU q)
end
end Go.Proofs
namespace Go.Proofs
open Go Go.Lift
def sb(s:SliceV)(y:Nat):Prop:=s.cap≠0∧∃a,s.a=some a∧y=a.block
section
variable {α:Type} {f:α→List Value} {sz:Nat} {ty:TypeId} {M:Nat→Prop} {h:ae} {s so:SliceV} {xs out:List α}
theorem _root_.Go.Lift.OwnS.sub(o:OwnS f sz ty M h s xs):∀y,sb s y→M y∧y<h.size:=fun y ⟨hc,a,i,c⟩=>by
 rcases o.blk with j|⟨b,d,e,hm,g,_⟩
 ·exact absurd j hc
 ·rw[i]at e
  cases e;exact⟨c▸hm,c▸aG g⟩
theorem _root_.Go.Lift.OwnS.its(o:OwnS f sz ty M h s xs):OwnS f sz ty (sb s) h s xs:=by
 refine⟨o.len,o.ne,o.cap,?_⟩;by_cases hc:s.cap=0
 ·exact .inl hc
 ·rcases o.blk with g|⟨b,a,c,hm,d,e⟩
  ·exact absurd g hc
  ·exact .inr ⟨b,a,c,⟨hc,_,c,rfl⟩,d,e⟩
theorem JZ{a:Option Addr}{n:Nat}:∀y,¬sb ⟨a,n,0⟩ y:=fun _ h=>h.1 rfl
theorem _root_.Go.Lift.OwnS.one{x:α}{b:Nat}(a:∀x,(f x).length=sz∧0<sz)(c:h[b]? =some (.cells (f x).toArray ty (0,0))):OwnS f sz ty (sb ⟨some ⟨b,0,none⟩,1,1⟩) h ⟨some ⟨b,0,none⟩,1,1⟩ [x]:=
 ⟨rfl,a,aw _,.inr ⟨b,[],rfl,⟨by simp,_,rfl,rfl⟩,by simpa using c,by simp⟩⟩
theorem KK{a:Nat}{z:List Value}{t:α}{b:Nat}{K:SliceV→ae→Prop}(j:OwnS f sz ty (sb so) h so out)(n:h[b]? =some (.cells (f t).toArray ty (0,0))) (e:bE (f t)=true) (hz:z.length=sz) (d:0<a∧a≤64) (k:out.length+1≤1000000)
  (o:∀s' c,OwnS f sz ty (sb s') c s' (out++ [t])→Upd (sb so) h c→(∀y,sb s' y→(sb so y∨h.size≤y)∧y<c.size)→K s' c):
  ∃xs,SRow h (some ⟨b,0,none⟩) (1*sz) xs∧AppP (some z) sz a ty so.a so.len so.cap 1 xs h K:=by
 refine⟨_,((OwnS.one j.ne n).sl (W:=No) fun _ _ _ h=>h).srow,?_⟩
 refine AppP.own (M:=fun y=>sb so y∨h.size≤y) (ys:= [t]) (j.more fun y i=>.inl i) rfl rfl (by simpa using e) hz d.1 ?_ (.inr (aw _)) fun s' c g m=>o s' c g.its (m.mono fun y i=>i) g.sub
 simp only[bd];calc (out.length+1)*a≤1000000*64:=Nat.mul_le_mul k d.2
  _≤140737488355328:=by omega
end
abbrev i1(n:Int):List Value:= [.int .i64 n]
abbrev b1V(b:Bool):List Value:= [.bool b]
theorem HA(n:Int):(i1 n).length=1∧0<1:=⟨rfl,by omega⟩
theorem JK(n:Bool):(b1V n).length=1∧0<1:=⟨rfl,by omega⟩
abbrev r4L(n:Int)(c a b:SliceV):List Value:= [.int .i64 n,.slice c.a c.len c.cap,.slice a.a a.len a.cap,.slice b.a b.len b.cap]
structure R4(h:ae)(rb:Nat)(s1 s2 s3:SliceV)(ids:List Int)(lv:List Bool)(is:List Int):Prop where
 bl:∃n,h[rb]? =some (.cells (r4L n s1 s2 s3).toArray sG (0,0))
 o1:OwnS i1 1 BW (sb s1) h s1 ids
 o2:OwnS b1V 1 pX (sb s2) h s2 lv
 o3:OwnS i1 1 BW (sb s3) h s3 is
theorem F3{n:Nat}(N:n≤1000){h:ae}{K:Option Addr→ae→Prop}(D:∀a s1,R4 a h.size s1 ⟨none,0,0⟩ ⟨none,0,0⟩ ((bW n).map fun j=>((j:Nat):Int)+1) [] []→Upd No h a→(∀y,sb s1 y→h.size<y)→K (some ⟨h.size,0,none⟩) a):HC PG vz [.int .i64 n] [.c .ptr] K h:=by
 refine GE _ ?_;unfold Ax bL cZ;refine bi fun O b1 k1=>?_
 have M:=aG b1;refine LoopP.ghost (fun(g:Nat×SliceV) (t:Int) a=>t=(g.1:Int)+1∧g.1≤n∧a[h.size]? =some (.cells (r4L n g.2 ⟨none,0,0⟩ ⟨none,0,0⟩).toArray sG (0,0))∧OwnS i1 1 BW (sb g.2) a g.2 ((bW g.1).map fun j=>((j:Nat):Int)+1)∧Upd No h a∧∀y,sb g.2 y→h.size<y) (fun g=>n-g.1) (0,⟨none,0,0⟩) ⟨rfl,bD _,b1,OwnS.nil HA,k1,fun y c=>absurd c (JZ y)⟩ ?_
 rintro I ⟨i,s⟩ t B ⟨rfl,hi,m,w,p,d⟩ G;simp only at hi m w p d⊢;refine bf (fun v=>?_) fun C=>?_
 ·have v:i<n:=by omega
  refine Join.plain ⟨_,rfl,s,vc m 1,bi fun P E o=>?_⟩
  have J:=p.size;have Q:=aG m;refine KK (f:=i1) (t:=(i:Int)+1) (b:=B.size) (w.upd o fun _ _ h=>h) E rfl rfl ⟨by omega,by omega⟩ (by simp;omega) fun s' a F k' q=>?_
  refine⟨_,rfl,vd (k'.get (o.get0 m) fun h=>by have:=d _ h;omega) (i:=1) (by simp) rfl fun H x k=>?_⟩
  rw[show IntKind.wrap .i64 ((i:Int)+1+1)=((i+1:Nat):Int)+1 by rw[nT (by omega)];omega]
  have L:=o.size;have A:∀y,sb s' y→h.size<y:=fun y c=>(q y c).1.elim (d y) fun h=>by omega
  refine G (i+1,s') _ _ ⟨rfl,by omega,x,?_,((p.tr o).trans k' fun y c=>.inr (by have:=d y c;omega)).own k (aw _),A⟩ (by show n-(i+1)<n-i;omega)
  have e:((bW (i+1)).map fun j=>((j:Nat):Int)+1)=((bW i).map fun j=>((j:Nat):Int)+1)++ [(i:Int)+1]:=by rw[List.range_succ,List.map_append];rfl
  rw[e];exact F.upd k fun y c z=>by have:=A y c;have z:y=h.size:=z;omega
 ·have u:i=n:=by omega
  subst u;exact D B s ⟨⟨_,m⟩,w,OwnS.nil JK,OwnS.nil HA⟩ p d
theorem nx{s:ByteArray}{h:ae}{K:ByteArray→ae→Prop}(a:K (wI s) h):HC PG cY [.string s,.int .i64 0] [.c .str] K h:=by
 refine EF s 0 ?_;unfold yZ;have e:(if 30<(s.size:Int)then(30:Int)else(s.size:Int))=((min s.size 30:Nat):Int):=by split<;>omega
 rw[e];refine⟨⟨by omega,by omega⟩,?_⟩
 simp only[Bd];rw[Int.toNat_natCast];refine ak.2 ?_;unfold wI at a;exact a
end Go.Proofs
namespace Go.Proofs
open Go Go.Lift
abbrev Jw(sl c a b:SliceV)(pb d:Option Addr):List Value:= [.slice sl.a sl.len sl.cap,.slice c.a c.len c.cap,.slice a.a a.len a.cap,.slice b.a b.len b.cap,.pointer pb,.pointer d]
abbrev s0:SliceV:=⟨none,0,0⟩
abbrev B6(b:Nat):SliceV:=⟨some ⟨b,0,none⟩,1,1⟩
abbrev pA(b:Nat):Option Addr:=some ⟨b,0,none⟩
def IY(c:Nat):List Int:=(bW c).map fun j=>((j:Nat):Int)+1
def KU(b b1 b2 a:Nat)(c:SliceV)(y:Nat):Prop:=y=b∨y=b1∨y=b2∨y=a∨sb c y
structure Made(h h':ae)(kk:Int)(x:Hs)(c:Nat)(t:Tr)(r:Rt)(wb b1 b2 pb cb rb:Nat)(s1:SliceV):Prop where
 cw:h'[wb]? =some (.cells (Jw (B6 b1) (B6 b2) s0 s0 (pA pb) (pA rb)).toArray gb (0,0))
 c1:h'[b1]? =some (.cells (fA t).toArray az (0,0))
 c2:h'[b2]? =some (.cells (GN r).toArray gM (0,0))
 r4:R4 h' rb s1 s0 s0 (IY c) [] []
 wo:Wo (KU wb b1 b2 rb s1) h' pb cb c (IY c) kk x 0 []
 it:TreeIs (Un (KU wb b1 b2 rb s1) cb []) h' kk x t []
 ir:RefIs (Un (KU wb b1 b2 rb s1) cb []) h' kk x r []
 od:wb<b1∧wb<b2∧b1≠b2∧b1<cb∧b2<cb∧pb=cb+1∧pb<rb∧∀y,sb s1 y→rb<y
 mv:Mv No h (Un (KU wb b1 b2 rb s1) cb []) h'
set_option maxRecDepth 100000 in
set_option maxHeartbeats 1000000 in
theorem Ge{h:ae}{k n kk:Int}{x:Hs}(hkk:kk=0∨kk=1)(ek:IntKind.wrap .i64 (jT k 2)=kk){c:Nat}(ec:IntKind.wrap .i64 (1+IntKind.wrap .i64 (jT n 4))=(c:Int))(h1c:1≤c)(h2c:c≤4){K:Option Addr→ae→Prop}
  (hk:∀N t r wb b1 b2 pb cb rb s1,Made h N kk x c t r wb b1 b2 pb cb rb s1→K (pA wb) N):HC PG sZ [.int .u8 k,.agg #[.int .u64 x.k0,.int .u64 x.k1,.int .u64 x.mask],.int .u8 n] [.c .ptr] K h:=by
 refine EE k (x.k0,x.k1,x.mask) n ?_;unfold yY aZ ag ay nv BL AD rB wd pU Hm qS cZ zl5 KV pl6 Lu;rw[ek,ec];refine bi fun q b1 k1=>bi fun h2 b2 k2=>?_
 have z1:=aG b1;have z2:=aG b2;have g1:=k2.get0 b1;refine⟨by decide,_,vc g1 0,_,vc g1 1,_,vc g1 2,?_⟩;refine E0 (W:=fun y=>y<h2.size) (x:=x) (fun _ h=>h) hkk fun h7 t i7 k7=>vp (t:=t) fun h9 b9 k9=>?_
 have z9:=aG b9;have g9:=(k7.tr k9).get0 g1;refine⟨by decide,_,vc g9 0,_,vc g9 1,_,vc g9 2,Hp fun h14 k14=>?_⟩
 have s7:=k7.size;have s14:=k14.size;refine I0 (W:=fun y=>y<h14.size) (x:=x) hkk fun h16 r j16 k16=>Ld (r:=r) fun d v k18=>?_
 have s16:=k16.size;have z18:=aG v;have g:=k14.tr (k16.tr k18);have s:=g.get0 b9;have w18:=((k7.tr k9).tr g).get0 b2;have n1:q.size≠h7.size∧q.size≠h16.size∧h7.size≠h16.size:=by omega
 have s1:=k1.size;refine Join.intro (fun _ N=>∃b1 b2,N[q.size]? =some (.cells (Jw (B6 b1) (B6 b2) s0 s0 none none).toArray gb (0,0))∧N[b1]? =some (.cells (fA t).toArray az (0,0))∧N[b2]? =some (.cells (GN r).toArray gM (0,0))∧d.size≤b1∧d.size≤b2∧b1≠b2∧Upd (· =q.size) d N) (fun R hR=>?_) ?_
 ·refine⟨_,vc s 0,_,vc s 1,_,vc s 2,_,vc s 3,_,vc s 4,_,vc s 5,_,vc v 0,_,vc v 1,_,vc v 2,_,vc v 3,r.2.2.2.2,vc v 4,⟨?_,?_⟩⟩
  ·refine bi fun h31 O I=>?_
   have z31:=aG O;have A:=I.get0 v;have w31:=I.get0 w18;refine⟨⟨vc A 0,vc A 1,vc A 2,vc A 3,vc A 4⟩,_,rfl,?_,?_⟩
   ·refine bi fun h33 b33 P=>?_
    have z33:=aG b33;refine vd (P.get0 w31) (i:=0) (by simp) rfl fun h34 V o=>⟨_,rfl,vd V (i:=1) (by simp) rfl fun h36 w36 L=>?_⟩
    exact hR _ _ ⟨d.size,h31.size,w36,L.oth (o.oth (P.get0 O) (by omega)) (by omega),L.oth (o.oth b33 (by omega)) (by omega),aw _,by omega,by omega,((I.tr P).wide.tr o).tr L⟩
   ·refine vd w31 (i:=0) (by simp) rfl fun h34 V o=>?_
    have F:=o.oth A (by omega);refine⟨⟨vc F 0,vc F 1,vc F 2,vc F 3,vc F 4⟩,bi fun h38 b38 M=>⟨_,rfl,vd (M.get0 V) (i:=1) (by simp) rfl fun h40 w40 Z=>?_⟩⟩
    have z38:=aG b38;have s34:=o.size;exact hR _ _ ⟨d.size,h34.size,w40,Z.oth (M.get0 (o.oth O (by omega))) (by omega),Z.oth b38 (by omega),aw _,by omega,by omega,((I.wide.tr o).tr M.wide).tr Z⟩
  ·refine bi fun h41 b41 T=>?_
   have z41:=aG b41;have C:=T.get0 s;refine⟨⟨vc C 0,vc C 1,vc C 2,vc C 3,vc C 4,vc C 5⟩,bi fun h42 b42 U=>⟨_,rfl,vd (U.get0 (T.get0 w18)) (i:=0) (by simp) rfl fun h44 w44 Y=>⟨_,rfl,vd w44 (i:=1) (by simp) rfl fun h46 w46 X=>?_⟩⟩⟩
   have z42:=aG b42;exact hR _ _ ⟨h41.size,d.size,w46,X.oth (Y.oth b42 (by omega)) (by omega),X.oth (Y.oth (U.get0 b41) (by omega)) (by omega),by omega,aw _,by omega,((T.tr U).wide.tr Y).tr X⟩
 rintro _ z ⟨Q,J,w48,c1,c2,hb1,hb2,hne,H⟩;have zb1:=aG c1;have zb2:=aG c2;have s48:=H.size;refine⟨by decide,yh h1c (by omega) fun h50 B p50=>?_⟩
 have zp:=aG p50.2.1;have w50:=B.get0 w48;refine⟨_,rfl,vd w50 (i:=4) (by simp) rfl fun S w52 w=>⟨by decide,F3 (by omega) fun h54 D r4 p E=>?_⟩⟩
 have s52:=w.size;have zr:=aG r4.bl.choose_spec;refine⟨_,rfl,vd (p.get0 w52) (i:=5) (by simp) rfl fun u w56 m=>?_⟩
 have s54:=p.size;have s56:=m.size;have kw:Upd (· =q.size) h2 u:=((((((k7.tr k9).tr g).wide.tr H).tr B.wide).tr w).tr p.wide).tr m
 have ns:∀{y},sb D y→y≠q.size:=fun f=>by have:=E _ f;omega
 have lts:∀{y},sb D y→y<u.size:=fun f=>by have:=(r4.o1.sub _ f).2;omega
 have un:∀y,Un (KU q.size Q J S.size D) z.size [] y→y=q.size∨d.size≤y:=by
  rintro y ((h|h|h|h|h)|h|⟨e,G,_⟩)
  ·exact .inl h
  ·exact .inr (by omega)
  ·exact .inr (by omega)
  ·exact .inr (by omega)
  ·exact .inr (by have:=E y h;omega)
  ·exact .inr (by omega)
  ·cases G
 have unl:∀y,Un (KU q.size Q J S.size D) z.size [] y→y<u.size:=by
  rintro y ((h|h|h|h|h)|h|⟨e,G,_⟩)
  ·omega
  ·omega
  ·omega
  ·omega
  ·exact lts h
  ·omega
  ·cases G
 have pl:PoolAt u (z.size+1) z.size c (IY c):=((p50.upd w (by omega) (by omega)).upd0 p).upd m (by omega) (by omega);refine hk u t r q.size Q J (z.size+1) z.size S.size D ⟨w56,?_,?_,⟨⟨_,m.oth r4.bl.choose_spec (by omega)⟩,r4.o1.upd m fun y f h=>ns f h,OwnS.nil JK,OwnS.nil HA⟩,⟨pl,by simp[IY,oc],fun y f=>unl y (.inl f),?_,?_,fun e G=>by(cases G),fun e G=>by(cases G),fun i j a b ha=>by(simp at ha)⟩,?_,?_,⟨by omega,by omega,hne,by omega,by omega,rfl,by omega,E⟩,⟨(k1.tr k2).trans kw fun y f=>.inr (by have f:y=q.size:=f;omega),fun y f=>.inr (by rcases un y f with h|h<;>omega)⟩⟩
 ·exact m.oth (p.get0 (w.oth (B.get0 c1) (by omega))) (by omega)
 ·exact m.oth (p.get0 (w.oth (B.get0 c2) (by omega))) (by omega)
 ·rintro(h|h|h|h|h)
  ·omega
  ·omega
  ·omega
  ·omega
  ·have:=E _ h;omega
 ·rintro((h|h|h|h|h)|h|⟨e,G,_⟩)
  ·omega
  ·omega
  ·omega
  ·omega
  ·have:=E _ h;omega
  ·omega
  ·cases G
 ·have i9:TreeIs (fun y=>y<h2.size∨d.size≤y) d kk x t []:=((i7.upd0 k9).upd0 g).less fun y f=>f
  have kr:Upd (· =q.size) d u:=(((H.tr B.wide).tr w).tr p.wide).tr m
  exact(i9.updM kr fun y f=>.inl (.inl (by have f:y=q.size:=f;omega))).less fun y f=>.inl ((un y f).imp (fun h=>by show y<h2.size;omega) id)
 ·have i9:RefIs (fun y=>y<h14.size∨d.size≤y) d kk x r []:=(j16.upd0 k18).less fun y f=>f
  have kr:Upd (· =q.size) d u:=(((H.tr B.wide).tr w).tr p.wide).tr m
  exact(i9.updM kr fun y f=>.inl (.inl (by have f:y=q.size:=f;omega))).less fun y f=>.inl ((un y f).imp (fun h=>by show y<h14.size;omega) id)
end Go.Proofs
namespace Go.Proofs
open Go Go.Lift
theorem Wo.w0{A:Nat→Prop}{h:ae}{pb cb cap n:Nat}{c:List Int}{a:Int}{x:Hs}{es:List Ed}(w:Wo A h pb cb cap c a x n es){b:Nat}(e:h.size≤b):¬Un A cb es b:=fun d=>by have:=w.ult b d;omega
end Go.Proofs
namespace Go.Proofs
open Go Go.Lift
structure Sp where
 T:Nat→Prop
 Q:ae→Prop
 loc:∀{M:Nat→Prop} {h h':ae},Q h→Upd M h h'→(∀y,T y→¬M y)→Q h'
def jx(b:Nat)(cs:List Value)(t:TypeId):Sp:=⟨(· =b),fun h=>h[b]? =some (.cells cs.toArray t (0,0)),fun q k a=>k.get q (a _ rfl)⟩
def AI{α:Type}(f:α→List Value)(a:Nat)(ty:TypeId)(s:SliceV)(xs:List α):Sp:=⟨sb s,fun h=>OwnS f a ty (sb s) h s xs,fun q k b=>q.upd k b⟩
def AL(Ss:List Sp)(y:Nat):Prop:=∃s∈Ss,s.T y
structure Own(Ss:List Sp)(h:ae):Prop where
 q:∀s∈Ss,s.Q h
 lt:∀s∈Ss,∀y,s.T y→y<h.size
 pd:∀(i j:Nat) (a b:Sp),Ss[i]? =some a→Ss[j]? =some b→i≠j→∀y,a.T y→¬b.T y
section
variable {Ss:List Sp} {h h':ae} {M:Nat→Prop} {s s':Sp} {i:Nat}
theorem Own.get(o:Own Ss h)(hi:Ss[i]? =some s):s.Q h:=o.q s (au hi)
theorem Own.away(o:Own Ss h)(k:Upd M h h')(hm:∀y,AL Ss y→¬M y):Own Ss h':=
 ⟨fun s a=>s.loc (o.q s a) k fun y b=>hm y ⟨s,a,b⟩,fun s a y b=>bv (o.lt s a y b) k.size,o.pd⟩
theorem Own.nil:Own [] h:=⟨(fun _ h=>by cases h),(fun _ h=>by cases h),(fun i j a b h=>by simp at h)⟩
theorem Own.set(o:Own Ss h)(hi:Ss[i]? =some s) (k:Upd M h h') (hm:∀y,M y→s.T y∨h.size≤y) (q:s'.Q h') (x:∀y,s'.T y→(s.T y∨h.size≤y)∧y<h'.size):Own (Ss.set i s') h':=by
 have z:i<Ss.length:=(aP.1 hi).1;have val:∀{j:Nat} {a:Sp},(Ss.set i s')[j]? =some a→(j=i∧a=s')∨(j≠i∧Ss[j]? =some a):=fun{j a} c=>by
  by_cases e:j=i
  ·subst e;rw[List.getElem?_set_self z]at c;cases c;exact .inl ⟨rfl,rfl⟩
  ·rw[List.getElem?_set_ne (Ne.symm e)]at c;exact .inr ⟨e,c⟩
 have one:∀{j:Nat} {a:Sp},j≠i→Ss[j]? =some a→∀y,a.T y→¬s'.T y:=fun{j a} f c y d h'=>
  (x y h').1.elim (o.pd j i a s c hi f y d) fun h=>by have:=o.lt a (au c) y d;omega
 refine⟨fun a c=>?_,fun a c y d=>?_,fun p j a b c A m y d g=>?_⟩
 ·obtain⟨j,f⟩:=ff c
  rcases val f with⟨_,rfl⟩|⟨w,f⟩
  ·exact q
  ·refine a.loc (o.get f) k fun y d hM=>?_
   rcases hm y hM with h|h
   ·exact o.pd j i a s f hi w y d h
   ·have:=o.lt a (au f) y d;omega
 ·obtain⟨j,f⟩:=ff c
  rcases val f with⟨_,rfl⟩|⟨w,f⟩
  ·exact(x y d).2
  ·exact bv (o.lt a (au f) y d) k.size
 ·rcases val c with⟨n,rfl⟩|⟨n,v⟩<;>rcases val A with⟨t,rfl⟩|⟨t,u⟩
  ·exact m (n.trans t.symm)
  ·exact one t u y g d
  ·exact one n v y d g
  ·exact o.pd p j a b v u m y d g
theorem Own.push(o:Own Ss h)(k:Upd No h h')(q:s'.Q h')(f:∀y,s'.T y→h.size≤y∧y<h'.size):Own (Ss++ [s']) h':=by
 have val:∀{j:Nat} {a:Sp},(Ss++ [s'])[j]? =some a→(j=Ss.length∧a=s')∨Ss[j]? =some a:=fun{j a} c=>by
  rw[iQ]at c;split at c
  ·exact .inr c
  ·have:j-Ss.length=0:=by have:=(aP.1 c).1;simp only[bd]at this;omega
   rw[this]at c;cases c;exact .inl ⟨by omega,rfl⟩
 have mem:∀{a},a∈Ss++ [s']→a∈Ss∨a=s':=fun h=>(bA.1 h).imp id ai.1
 refine⟨fun a c=>?_,fun a c y e=>?_,fun p j a b c n g y e d=>?_⟩
 ·rcases mem c with c|rfl
  ·exact a.loc (o.q a c) k fun _ _ h=>h
  ·exact q
 ·rcases mem c with c|rfl
  ·exact bv (o.lt a c y e) k.size
  ·exact(f y e).2
 ·rcases val c with⟨s,rfl⟩|m<;>rcases val n with⟨t,rfl⟩|i
  ·omega
  ·have:=o.lt b (au i) y d;have:=(f y e).1;omega
  ·have:=o.lt a (au m) y e;have:=(f y d).1;omega
  ·exact o.pd p j a b m i g y e d
theorem KM(hi:Ss[i]? =some s) {z:Nat} (d:∀y,s'.T y→s.T y∨z≤y):∀y,AL (Ss.set i s') y→AL Ss y∨z≤y:=fun y ⟨a,e,b⟩=>by
 rcases A9 e with rfl|⟨j,_,c⟩
 ·exact(d y b).imp (fun h=>⟨s,au hi,h⟩) id
 ·exact .inl ⟨a,au c,b⟩
end
structure Ws(Ss:List Sp)(h:ae)(pb cb cap:Nat)(ids:List Int)(kind:Int)(x:Hs)(n:Nat)(es:List Ed):Prop where
 own:Own Ss h
 wo:Wo (AL Ss) h pb cb cap ids kind x n es
section
variable {Ss:List Sp} {h h':ae} {pb cb cap n m:Nat} {ids ids':List Int} {kind:Int} {x:Hs} {es es':List Ed} {s s':Sp} {i:Nat} {M:Nat→Prop}
theorem Ws.up0(w:Ws Ss h pb cb cap ids kind x n es)(k:Upd No h h'):Ws Ss h' pb cb cap ids kind x n es:=⟨w.own.away k fun _ _ h=>h,w.wo.up0 k⟩
theorem Ws.set(w:Ws Ss h pb cb cap ids kind x n es)(hi:Ss[i]? =some s) (k:Upd M h h') (hm:∀y,M y→s.T y∨h.size≤y) (q:s'.Q h') (c:∀y,s'.T y→(s.T y∨h.size≤y)∧y<h'.size):Ws (Ss.set i s') h' pb cb cap ids kind x n es∧Mv (Un (AL Ss) cb es) h (Un (AL (Ss.set i s')) cb es) h':=by
 have o:=w.own.set hi k hm q c;have r:=w.wo.own (A':=AL (Ss.set i s')) k (fun y b=>(hm y b).imp (fun h=>⟨s,au hi,h⟩) id) fun y b=>⟨KM hi (fun y b=>(c y b).1) y b,let⟨a,d,b⟩:=b;o.lt a d y b⟩
 exact⟨⟨o,r.1⟩,r.2⟩
theorem Ws.push(w:Ws Ss h pb cb cap ids kind x n es)(k:Upd No h h')(q:s'.Q h')(d:∀y,s'.T y→h.size≤y∧y<h'.size):Ws (Ss++ [s']) h' pb cb cap ids kind x n es∧Mv (Un (AL Ss) cb es) h (Un (AL (Ss++ [s'])) cb es) h':=by
 have o:=w.own.push k q d;have r:=w.wo.own (A':=AL (Ss++ [s'])) k (fun _ h=>h.elim) fun y ⟨a,b,c⟩=>⟨?_,o.lt a b y c⟩
 ·exact⟨⟨o,r.1⟩,r.2⟩
 ·rcases bA.1 b with b|b
  ·exact .inl ⟨a,b,c⟩
  ·rw[ai.1 b]at c;exact .inr (d y c).1
theorem Ws.cell(w:Ws Ss h pb cb cap ids kind x n es){b:Nat}{cs a:List Value}{t c:TypeId}(hi:Ss[i]? =some (jx b cs t)) (k:Upd (· =b) h h') (q:h'[b]? =some (.cells a.toArray c (0,0))):Ws (Ss.set i (jx b a c)) h' pb cb cap ids kind x n es∧Mv (Un (AL Ss) cb es) h (Un (AL (Ss.set i (jx b a c))) cb es) h':=
 w.set (s':=jx b a c) hi k (fun _ h=>.inl h) q fun y d=>⟨.inl d,(show y=b from d)▸aG q⟩
theorem Ws.slice(w:Ws Ss h pb cb cap ids kind x n es){α:Type}{f:α→List Value}{b:Nat}{ty:TypeId}{c a:SliceV}{xs ys:List α}(hi:Ss[i]? =some (AI f b ty c xs)) (k:Upd (sb c) h h') (q:OwnS f b ty (sb a) h' a ys) (d:∀y,sb a y→(sb c y∨h.size≤y)∧y<h'.size):Ws (Ss.set i (AI f b ty a ys)) h' pb cb cap ids kind x n es∧Mv (Un (AL Ss) cb es) h (Un (AL (Ss.set i (AI f b ty a ys))) cb es) h':=
 w.set (s':=AI f b ty a ys) hi k (fun _ h=>.inl h) q d
theorem Ws.ed(w:Ws Ss h pb cb cap ids kind x n es)(wo:Wo (AL Ss) h' pb cb cap ids' kind x m es')(k:Me (AL Ss) cb es h es' h'):Ws Ss h' pb cb cap ids' kind x m es':=⟨w.own.away k.2 fun _ a h=>h a,wo⟩
theorem Ws.mono(w:Ws Ss h pb cb cap ids kind x n es)(hm:n≤m):Ws Ss h pb cb cap ids kind x m es:=⟨w.own,w.wo.mono hm⟩
theorem Ws.unl(w:Ws Ss h pb cb cap ids kind x n es):∀y,Un (AL Ss) cb es y→y<h.size:=w.wo.ult
end
end Go.Proofs
namespace Go.Proofs
open Go Go.Lift
theorem Own.app{Ss Q:List Sp}{h m:ae}(o:Own Ss h)(k:Upd No h m)(q:Own Q m)(p:∀y,AL Q y→h.size≤y):Own (Ss++Q) m:=by
 have val:∀{j:Nat} {a:Sp},(Ss++Q)[j]? =some a→(j<Ss.length∧Ss[j]? =some a)∨(Ss.length≤j∧Q[j-Ss.length]? =some a):=fun{j a} c=>by
  rw[iQ]at c;split at c
  ·rename_i hl
   exact .inl ⟨hl,c⟩
  ·exact .inr ⟨by omega,c⟩
 refine⟨fun a c=>?_,fun a c y e=>?_,fun i j a b c u n y e d=>?_⟩
 ·rcases bA.1 c with c|c
  ·exact a.loc (o.q a c) k fun _ _ h=>h
  ·exact q.q a c
 ·rcases bA.1 c with c|c
  ·exact bv (o.lt a c y e) k.size
  ·exact q.lt a c y e
 ·rcases val c with⟨s,g⟩|⟨s,g⟩<;>rcases val u with⟨t,f⟩|⟨t,f⟩
  ·exact o.pd i j a b g f n y e d
  ·have:=o.lt a (au g) y e;have:=p y ⟨b,au f,d⟩;omega
  ·have:=o.lt b (au f) y d;have:=p y ⟨a,au g,e⟩;omega
  ·exact q.pd _ _ a b g f (by omega) y e d
theorem Ws.app{Ss Q:List Sp}{h e:ae}{pb cb cap n:Nat}{d:List Int}{b:Int}{x:Hs}{es:List Ed}(w:Ws Ss h pb cb cap d b x n es)(k:Upd No h e)(q:Own Q e)(g:∀y,AL Q y→h.size≤y):Ws (Ss++Q) e pb cb cap d b x n es∧Mv (Un (AL Ss) cb es) h (Un (AL (Ss++Q)) cb es) e:=by
 have o:=w.own.app k q g;have r:=w.wo.own (A':=AL (Ss++Q)) k (fun _ h=>h.elim) fun y ⟨a,c,f⟩=>⟨(bA.1 c).imp (fun c=>⟨a,c,f⟩) fun c=>g y ⟨a,c,f⟩,o.lt a c y f⟩
 exact⟨⟨o,r.1⟩,r.2⟩
theorem Own.two{b1 b2:Nat}{c1 c2:List Value}{n o:TypeId}{h:ae}(m:h[b1]? =some (.cells c1.toArray n (0,0))) (p:h[b2]? =some (.cells c2.toArray o (0,0))) (f:b1≠b2):Own [jx b1 c1 n,jx b2 c2 o] h:=by
 refine⟨fun a c=>?_,fun a c y e=>?_,fun i j a b c d k y e g=>?_⟩
 ·simp only[ar,lV,or_false]at c
  rcases c with rfl|rfl
  ·exact m
  ·exact p
 ·simp only[ar,lV,or_false]at c
  rcases c with rfl|rfl
  ·have e:y=b1:=e;have:=aG m;omega
  ·have e:y=b2:=e;have:=aG p;omega
 ·match i,j,c,d with
  |0,0,_,_=>exact k rfl
  |0,1,c,d=>cases c;cases d;exact f (e.symm.trans g)
  |1,0,c,d=>cases c;cases d;exact f (g.symm.trans e)
  |1,1,_,_=>exact k rfl
  |i+2,j,c,_=>simp at c
  |0,j+2,_,d=>simp at d
  |1,j+2,_,d=>simp at d
end Go.Proofs
namespace Go.Proofs
open Go Go.Lift
abbrev IG(b b1 b2 pb a c:Nat)(t:Tr)(Q:List Sp):List Sp:=jx b (Jw (B6 b1) (B6 b2) s0 s0 (pA pb) (pA a)) gb::jx c (fA t) az::Q
abbrev XY(b a:Nat)(x y:Tr):List Sp:= [jx b (fA x) az,jx a (fA y) az]
structure ASt(h:ae)(P:List Sp)(pb cb:Nat)(kk:Int)(x:Hs)(n:Nat)(h':ae)(xv yv:Nat)(tx ty:Tr)(a b:Ed):Prop where
 ws:Ws (P++XY xv yv tx ty) h' pb cb 2 [] kk x n [a,b]
 ix:TreeIs (Un (AL (P++XY xv yv tx ty)) cb [a,b]) h' kk x tx a.lu
 iy:TreeIs (Un (AL (P++XY xv yv tx ty)) cb [a,b]) h' kk x ty b.lu
 mv:Mv No h (Un (AL (P++XY xv yv tx ty)) cb [a,b]) h'
 la:a.lv=true
 lb:b.lv=true
section
variable {h h1 h2 h3 h4:ae} {P:List Sp} {pb cb n xv yv:Nat} {kk:Int} {x:Hs} {tx ty t':Tr} {a b e:Ed}
theorem ASt.up0(s:ASt h P pb cb kk x n h1 xv yv tx ty a b)(k:Upd No h1 h2):ASt h P pb cb kk x n h2 xv yv tx ty a b:=⟨s.ws.up0 k,s.ix.upd0 k,s.iy.upd0 k,s.mv.up0 k,s.la,s.lb⟩
theorem ASt.mono(s:ASt h P pb cb kk x n h1 xv yv tx ty a b){m:Nat}(hm:n≤m):ASt h P pb cb kk x m h1 xv yv tx ty a b:=⟨s.ws.mono hm,s.ix,s.iy,s.mv,s.la,s.lb⟩
theorem ASt.cx(s:ASt h P pb cb kk x n h1 xv yv tx ty a b)(c:P.length=2):h1[xv]? =some (.cells (fA tx).toArray az (0,0)):=s.ws.own.get (i:=2) (s:=jx xv (fA tx) az) (by simp[c])
theorem ASt.cy(s:ASt h P pb cb kk x n h1 xv yv tx ty a b)(c:P.length=2):h1[yv]? =some (.cells (fA ty).toArray az (0,0)):=s.ws.own.get (i:=3) (s:=jx yv (fA ty) az) (by rw[bI (by omega),c];rfl)
theorem ASt.fx(s:ASt h P pb cb kk x n h1 xv yv tx ty a b)(c:P.length=2)(w:Wo (AL (P++XY xv yv tx ty)) h2 pb cb 2 [] kk x (n+1) [e,b])(m:Me (AL (P++XY xv yv tx ty)) cb [a,b] h1 [e,b] h2)(d:e.lv=true)(k:Upd No h2 h3)(f:TreeIs (Un (AL (P++XY xv yv tx ty)) cb [e,b]) h3 kk x t' e.lu)(g:h4[xv]? =some (.cells (fA t').toArray az (0,0))) (u:Upd (· =xv) h3 h4):ASt h P pb cb kk x (n+1) h4 xv yv t' ty e b:=by
 have r:=((s.ws.ed w m).up0 k).cell (i:=2) (b:=xv) (cs:=fA tx) (t:=az) (by simp[c]) u g;rw[show(P++XY xv yv tx ty).set 2 (jx xv (fA t') az)=P++XY xv yv t' ty by rw[lA _ _ (by omega),c];rfl]at r
 exact⟨r.1,f.mv r.2,(((s.iy.mv m.1).upd0 k).mv r.2),((s.mv.tr m.1).up0 k).tr r.2,d,s.lb⟩
theorem ASt.fy(s:ASt h P pb cb kk x n h1 xv yv tx ty a b)(c:P.length=2)(w:Wo (AL (P++XY xv yv tx ty)) h2 pb cb 2 [] kk x (n+1) [a,e])(m:Me (AL (P++XY xv yv tx ty)) cb [a,b] h1 [a,e] h2)(d:e.lv=true)(k:Upd No h2 h3)(f:TreeIs (Un (AL (P++XY xv yv tx ty)) cb [a,e]) h3 kk x t' e.lu)(g:h4[yv]? =some (.cells (fA t').toArray az (0,0))) (u:Upd (· =yv) h3 h4):ASt h P pb cb kk x (n+1) h4 xv yv tx t' a e:=by
 have r:=((s.ws.ed w m).up0 k).cell (i:=3) (b:=yv) (cs:=fA ty) (t:=az) (by rw[bI (by omega),c];rfl) u g;rw[show(P++XY xv yv tx ty).set 3 (jx yv (fA t') az)=P++XY xv yv tx t' by rw[lA _ _ (by omega),c];rfl]at r
 exact⟨r.1,(((s.ix.mv m.1).upd0 k).mv r.2),f.mv r.2,((s.mv.tr m.1).up0 k).tr r.2,s.la,d⟩
end
abbrev rV(q:Pr):Pr:=(wI q.1,wI q.2)
theorem Ft{h:ae}{u:Addr}{q:Pr}(F:aQ h (adr u 0)=some (.string q.1))(z:aQ h (adr u 1)=some (.string q.2)){R:Addr→ae→Prop}(A:∀b h',h'[b]? =some (.cells (gz (rV q)).toArray al (0,0))→h.size≤b→Upd No h h'→R ⟨b,0,none⟩ h'):
  (HC PG cY [.string q.1,.int .i64 0] [.c .str] (fun(e:ByteArray) a=>aQ a (adr u 1)=some (.string q.2)∧
   (HC PG cY [.string q.2,.int .i64 0] [.c .str] (fun(s:ByteArray) d=>At (hnew d [.string (⟨#[]⟩:ByteArray),.string (⟨#[]⟩:ByteArray)] al) fun o=>ph o (some (aU d)) 0 [.string e,.string s]∧At (fi o (aU d) 0 [.string e,.string s]) fun y=>R (aU d) y) a∧
    At (hnew a [.string (⟨#[]⟩:ByteArray),.string (⟨#[]⟩:ByteArray)] al) fun n=>aQ n (adr u 1)=some (.string q.2)∧HC PG cY [.string q.2,.int .i64 0] [.c .str] (fun(t:ByteArray) j=>ph j (some (aU a)) 0 [.string e,.string t]∧At (fi j (aU a) 0 [.string e,.string t]) fun x=>R (aU a) x) n)) h)∧
  At (hnew h [.string (⟨#[]⟩:ByteArray),.string (⟨#[]⟩:ByteArray)] al) fun f=>aQ f (adr u 1)=some (.string q.2)∧aQ f (adr u 0)=some (.string q.1)∧HC PG cY [.string q.1,.int .i64 0] [.c .str] (fun(g:ByteArray) i=>aQ i (adr u 1)=some (.string q.2)∧HC PG cY [.string q.2,.int .i64 0] [.c .str] (fun(m:ByteArray) k=>ph k (some (aU h)) 0 [.string g,.string m]∧At (fi k (aU h) 0 [.string g,.string m]) fun w=>R (aU h) w) i) f:=by
 refine⟨nx ⟨z,nx (Hw (p:=rV q) fun I b3 H=>A _ _ b3 (aw _) H),bi fun G D v=>⟨v.cell0 z,nx (dy (c:=gz BJ) (vs:=gz (rV q)) D rfl fun E B C=>A _ _ B (aw _) (v.own C (aw _)))⟩⟩,bi fun G D v=>⟨v.cell0 z,v.cell0 F,nx ⟨v.cell0 z,nx (dy (c:=gz BJ) (vs:=gz (rV q)) D rfl fun E B C=>A _ _ B (aw _) (v.own C (aw _)))⟩⟩⟩
set_option maxRecDepth 100000 in
set_option maxHeartbeats 8000000 in
theorem Bj{h:ae}{k:Int}{x:Hs}{s s2 s3:SliceV}{l l2 l3:List Pr}(hs:Sl gz 2 No h s l)(hl:l.length≤9223372036854775807)(hs2:Sl gz 2 No h s2 l2)(hl2:l2.length≤9223372036854775807)(hs3:Sl gz 2 No h s3 l3)(hl3:l3.length≤9223372036854775807)(hk0:0≤k)(hk1:k≤255):
  HC PG qx [.int .u8 k,.agg #[.int .u64 x.k0,.int .u64 x.k1,.int .u64 x.mask],.slice s.a s.len s.cap,.slice s2.a s2.len s2.cap,.slice s3.a s3.len s3.cap] [.c .bool] (fun b D=>b=true∧Upd No h D) h:=by
 refine xd k (x.k0,x.k1,x.mask) s s2 s3 ?_;unfold qG cG f6 wy aZ ag dQ gd ay bQ aD bL fH BO nv BL AD rB wd qt oZ EU wg pq pU xi;have hkk:=Lh hk0 hk1;generalize e0:IntKind.wrap .i64 (jT k 2)=kk at hkk;have hsl:=hs.len;have hs2l:=hs2.len;have hs3l:=hs3.len;refine bi fun h1 b1 k1=>Er fun h3 k3=>ak.2 ?_
 have c3:=k3.get0 b1;have k03:=k1.tr k3;refine⟨_,vc c3 0,_,vc c3 1,_,vc c3 2,Ge (x:=x) (n:=1) (c:=2) hkk e0 rfl (by omega) (by omega) fun L t r W u v pb cb Z s1 md=>?_⟩
 have cw:=md.cw;have c1:=md.c1;refine⟨_,rfl,B6 u,vc cw 0,⟨Int.le_refl _,Int.zero_lt_one⟩,_,rfl,_,qv c1 0 0,_,qv c1 0 1,_,qv c1 0 2,_,qv c1 0 3,_,qv c1 0 4,_,qv c1 0 5,vp (t:=t) fun h19 b19 k19=>?_⟩
 have z19:=aG b19;have ow:Own [jx W (Jw (B6 u) (B6 v) s0 s0 (pA pb) (pA Z)) gb] L:=by
  refine⟨fun a ha=>?_,fun a ha y hy=>?_,fun i j a b ha hb hij=>?_⟩
  ·rw[ai.1 ha];exact cw
  ·rw[ai.1 ha]at hy;rw[show y=W from hy];exact aG cw
  ·have:=(aP.1 ha).1
   have:=(aP.1 hb).1;simp only[bd]at*;omega
 have o8:=md.wo.own (A':=AL [jx W (Jw (B6 u) (B6 v) s0 s0 (pA pb) (pA Z)) gb]) (Upd.refl No L) (fun _ h=>h.elim) fun y ⟨a,ha,hy⟩=>⟨.inl (.inl (by rw[ai.1 ha]at hy;exact hy)),ow.lt a ha y hy⟩
 have ws8:Ws [jx W (Jw (B6 u) (B6 v) s0 s0 (pA pb) (pA Z)) gb] L pb cb 2 [1,2] kk x 0 []:=⟨ow,o8.1⟩;have p19:=ws8.push (s':=jx L.size (fA t) az) k19 b19 fun y hy=>by have hy:y=L.size:=hy;omega
 have m19:Mv No h (Un (AL (IG W u v pb Z L.size t [])) cb []) h19:=(((Mv.of0 k03).tr md.mv).tr o8.2).tr p19.2;have i19:TreeIs (Un (AL (IG W u v pb Z L.size t [])) cb []) h19 kk x t []:=(md.it.mv o8.2).mv p19.2;have w19:Ws (IG W u v pb Z L.size t []) h19 pb cb 2 [1,2] kk x 0 []:=p19.1;clear ws8 p19 o8 ow;refine LoopP.ghost (fun(g:Nat×Tr×List Pr) (M:Int) D=>M=(g.1:Int)∧g.1≤l.length∧Ws (IG W u v pb Z L.size g.2.1 []) D pb cb 2 [1,2] kk x 0 []∧TreeIs (Un (AL (IG W u v pb Z L.size g.2.1 [])) cb []) D kk x g.2.1 g.2.2∧Mv No h (Un (AL (IG W u v pb Z L.size g.2.1 [])) cb []) D∧cq g.2.2∧Fit g.2.2∧g.2.2.length≤min g.1 20) (fun g=>l.length-g.1) (0,t,[]) ⟨rfl,bD _,w19,i19,m19,fq,(fun p hp=>by cases hp),bD _⟩ ?_
 rintro I ⟨i,t,lu⟩ _ h22 ⟨rfl,hil,w,it,mv,up,fit,len⟩ hI;simp only at hil w it mv up fit len hI⊢;have ct:h22[L.size]? =some (.cells (fA t).toArray az (0,0)):=w.own.get (i:=1) rfl;have cw22:h22[W]? =some (.cells (Jw (B6 u) (B6 v) s0 s0 (pA pb) (pA Z)).toArray gb (0,0)):=w.own.get (i:=0) rfl;refine bf (fun hlt=>?_) fun _=>?_
 ·have hlt:i<l.length:=by omega
  obtain⟨a,Y,_,hv⟩:=(hs.upd mv.1 fun _ h=>h.elim).at (aj hlt)
  refine Join.plain ⟨⟨by omega,by omega⟩,a,Y,_,hv 0 _ rfl,_,hv 1 _ rfl,Hw (p:=l[i]) fun h28 b28 T=>?_⟩
  rw[Dc hlt hl];generalize l[i]=p at b28;refine bf (fun h20=>?_) fun h20=>hI (i+1,t,lu) _ _ ⟨rfl,by omega,w.up0 T,it.upd0 T,mv.up0 T,up,fit,by show lu.length≤min (i+1) 20;omega⟩ (by show l.length-(i+1)<l.length-i;omega)
  have h20:i<20:=by omega
  have d:=T.get0 ct;have hc1:=lP p.1;have hc2:=lP p.2;refine⟨_,vc d 0,_,vc d 1,_,vc d 2,_,vc d 3,_,vc d 4,_,vc d 5,_,vc b28 0,_,vc b28 1,nx ⟨vc b28 1,⟨vc d 0,vc d 1,vc d 2,vc d 3,vc d 4,vc d 5⟩,nx ⟨⟨vc d 0,vc d 1,vc d 2,vc d 3,vc d 4,vc d 5⟩,?_⟩⟩⟩;refine ve (it.upd0 T) (w.up0 T).unl up (by omega) (rV p) fun h42 M i42 _ k42=>?_
  refine dy (c:=fA t) (vs:=fA M) (k42.get0 d) rfl fun h43 b43 u43=>?_
  have r43:=((w.up0 T).up0 k42).cell (i:=1) (b:=L.size) (cs:=fA t) (t:=az) rfl u43 b43;have wl:=BQ (p:=rV p) up fit len ⟨by show(wI p.1).size≤5030;omega,by show(wI p.2).size≤5030;omega⟩
  exact hI (i+1,M,lw lu (rV p)) _ _ ⟨rfl,by omega,r43.1,i42.mv r43.2,((mv.up0 T).up0 k42).tr r43.2,wl.1,wl.2.1,by show(lw lu (rV p)).length≤min (i+1) 20;have:=wl.2.2;omega⟩ (by show l.length-(i+1)<l.length-i;omega)
 have hlen:lu.length≤20:=by omega
 refine⟨_,rfl,_,vc cw22 4,_,vc ct 0,_,vc ct 1,_,vc ct 2,_,vc ct 3,_,vc ct 4,_,vc ct 5,?_⟩;refine ES (j:=1) (ids2:= [2]) (w.mono (bD 20)).wo rfl it up fit hlen fun h55 eb1 tb1 w55 m55=>?_
 have ws55:=(w.mono (bD 20)).ed w55 m55;have G:h55[L.size]? =some (.cells (fA t).toArray az (0,0)):=ws55.own.get (i:=1) rfl;have cw55:h55[W]? =some (.cells (Jw (B6 u) (B6 v) s0 s0 (pA pb) (pA Z)).toArray gb (0,0)):=ws55.own.get (i:=0) rfl;refine⟨_,rfl,_,vc cw55 4,_,vc G 0,_,vc G 1,_,vc G 2,_,vc G 3,_,vc G 4,_,vc G 5,?_⟩;refine ES (j:=2) (ids2:= []) ws55.wo rfl (it.mv m55.1) up fit hlen fun X eb2 tb2 w65 m65=>?_
 have ws65:=ws55.ed w65 m65;have f:X[L.size]? =some (.cells (fA t).toArray az (0,0)):=ws65.own.get (i:=1) rfl;have mv65:=(mv.tr m55.1).tr m65.1;have i65:=(it.mv m55.1).mv m65.1;refine Join.plain (ak.2 (ak.2 ?_));have hP:(IG W u v pb Z L.size t []).length=2:=rfl;refine Join.intro (fun M D=>∃K H,M=((⟨K,0,none⟩:Addr),(⟨H,0,none⟩:Addr))∧ASt h (IG W u v pb Z L.size t []) pb cb kk x 20 D K H t t ⟨eb1,tb1,1,true,t,lu,No⟩ ⟨eb2,tb2,2,true,t,lu,No⟩) (fun R hR=>?_) ?_
 ·have fin:∀{h1 h2 h3:ae} {K H:Nat},Upd No X h1→X.size≤K→X.size≤H→K≠H→Upd (· =K) h1 h2→Upd (· =H) h2 h3→h3[K]? =some (.cells (fA t).toArray az (0,0))→h3[H]? =some (.cells (fA t).toArray az (0,0))→ASt h (IG W u v pb Z L.size t []) pb cb kk x 20 h3 K H t t ⟨eb1,tb1,1,true,t,lu,No⟩ ⟨eb2,tb2,2,true,t,lu,No⟩:=by
   intro h1 h2 h3 K H ka g1 g2 hne u2 u3 d1 d2;have kn:Upd No X h3:=(ka.own u2 g1).own u3 g2;have p1:=ws65.app kn (Own.two d1 d2 hne) fun y ⟨a,ha,hy⟩=>by
    simp only[ar,lV,or_false]at ha;rcases ha with rfl|rfl
    ·have hy:y=K:=hy;omega
    ·have hy:y=H:=hy;omega
   exact⟨p1.1,i65.mv p1.2,i65.mv p1.2,mv65.tr p1.2,rfl,rfl⟩
  refine⟨_,vc f 0,_,vc f 1,_,vc f 2,_,vc f 3,_,vc f 4,_,vc f 5,_,vc f 0,_,vc f 1,_,vc f 2,_,vc f 3,_,vc f 4,_,vc f 5,?_,?_⟩
  ·refine bi fun h174 d174 k174=>?_
   have z174:=aG d174;have c:=k174.get0 f;refine⟨⟨vc c 0,vc c 1,vc c 2,vc c 3,vc c 4,vc c 5⟩,⟨vc c 0,vc c 1,vc c 2,vc c 3,vc c 4,vc c 5⟩,bi fun h175 d175 k175=>?_⟩
   have z175:=aG d175;have c:=k175.get0 c;refine⟨⟨vc c 0,vc c 1,vc c 2,vc c 3,vc c 4,vc c 5⟩,⟨vc c 0,vc c 1,vc c 2,vc c 3,vc c 4,vc c 5⟩,dy (c:=fA xj) (vs:=fA t) (k175.get0 d174) rfl fun h176 d176 u176=>?_⟩
   have ct':=aG f;have c:=u176.oth c (by omega);refine⟨⟨vc c 0,vc c 1,vc c 2,vc c 3,vc c 4,vc c 5⟩,dy (c:=fA xj) (vs:=fA t) (u176.oth d175 (by omega)) rfl fun h177 d177 u177=>?_⟩
   exact hR _ _ ⟨X.size,h174.size,rfl,fin (k174.tr k175) (aw _) (by omega) (by omega) u176 u177 (u177.oth d176 (by omega)) d177⟩
  ·refine bi fun h178 d178 k178=>?_
   have z178:=aG d178;have s178:=k178.size;have c:=k178.get0 f;refine⟨⟨vc c 0,vc c 1,vc c 2,vc c 3,vc c 4,vc c 5⟩,⟨vc c 0,vc c 1,vc c 2,vc c 3,vc c 4,vc c 5⟩,bi fun h179 d179 k179=>?_⟩
   have z179:=aG d179;have c:=k179.get0 c;refine⟨⟨vc c 0,vc c 1,vc c 2,vc c 3,vc c 4,vc c 5⟩,⟨vc c 0,vc c 1,vc c 2,vc c 3,vc c 4,vc c 5⟩,dy (c:=fA xj) (vs:=fA t) d179 rfl fun h180 d180 u180=>?_⟩
   have ct':=aG f;have c:=u180.oth c (by omega);refine⟨⟨vc c 0,vc c 1,vc c 2,vc c 3,vc c 4,vc c 5⟩,dy (c:=fA xj) (vs:=fA t) (u180.oth (k179.get0 d178) (by omega)) rfl fun h181 d181 u181=>?_⟩
   exact hR _ _ ⟨h178.size,X.size,rfl,fin (k178.tr k179) (by omega) (aw _) (by omega) u180 u181 (u181.oth d180 (by omega)) d181⟩
 rintro _ h183 ⟨K,H,rfl,st183⟩;generalize IG W u v pb Z L.size t []=P at st183 hP;refine LoopP.ghost (fun(g:Nat×Tr×Tr×Ed×Ed) (M:Int) D=>M=(g.1:Int)∧g.1≤20∧g.2.2.2.1.eb=eb1∧g.2.2.2.2.eb=eb2∧ASt h P pb cb kk x (20+2*g.1) D K H g.2.1 g.2.2.1 g.2.2.2.1 g.2.2.2.2) (fun g=>20-g.1) (0,t,t,⟨eb1,tb1,1,true,t,lu,No⟩,⟨eb2,tb2,2,true,t,lu,No⟩) ⟨rfl,bD _,rfl,rfl,st183⟩ ?_
 rintro I4 ⟨i4,tx,ty,a,b⟩ _ h186 ⟨rfl,hi4,hea,heb,V⟩ hI4;simp only at hi4 hea heb V hI4⊢;refine bf (fun hlt=>?_) fun _=>?_
 ·have hlt:i4<20:=by omega
  rw[show IntKind.wrap .i64 ((i4:Int)+1)=((i4+1:Nat):Int) by rw[nT (by omega)];omega]
  refine Join.plain (Join.intro (fun _ D=>∃tx' a',a'.eb=eb1∧ASt h P pb cb kk x (20+2*i4+1) D K H tx' ty a' b) (fun R hR=>?_) ?_)
  ·refine bf (fun h2=>?_) fun _=>hR _ _ ⟨tx,a,hea,V.mono (Nat.le_succ _)⟩
   have h2:i4<l2.length:=by omega
   obtain⟨ad,Y,_,hv⟩:=(hs2.upd V.mv.1 fun _ h=>h.elim).at (aj h2)
   generalize l2[i4]=q at hv;have nb0:=fun{b:Nat} (hb:h186.size≤b)=>V.ws.wo.w0 hb
   refine Join.intro (fun M D=>∃bq,M=(⟨bq,0,none⟩:Addr)∧D[bq]? =some (.cells (gz (rV q)).toArray al (0,0))∧h186.size≤bq∧Upd No h186 D) (fun R3 hR3=>⟨⟨by omega,by omega⟩,ad,Y,_,hv 0 _ rfl,⟨by omega,by omega⟩,ad,Y,_,hv 1 _ rfl,Ft (hv 0 _ rfl) (hv 1 _ rfl) fun bq D c1 c2 c3=>hR3 _ _ ⟨bq,rfl,c1,c2,c3⟩⟩) ?_
   rintro _ h234 ⟨bq,rfl,C,hbq,k234⟩;have E:=V.up0 k234;have qa:=E.ws.wo.ew a (ax ..);have hla:=qa.len;have hc1:(rV q).1.size≤30∧(rV q).2.size≤30:=⟨lP _,lP _⟩;generalize rV q=p at C hc1;rw[←hea];refine⟨_,vc C 0,_,vc C 1,Jv (i:=0) E.ws.wo rfl V.la (by omega) p ⟨by omega,by omega⟩ fun h238 tu' S' w238 m238=>?_⟩
   have ws238:=E.ws.ed w238 m238;have cx:h238[K]? =some (.cells (fA tx).toArray az (0,0)):=ws238.own.get (i:=2) (s:=jx K (fA tx) az) (by simp[hP]);have b238:=m238.1.get C (nb0 hbq);refine⟨_,vc cx 0,_,vc cx 1,_,vc cx 2,_,vc cx 3,_,vc cx 4,_,vc cx 5,_,vc b238 0,_,vc b238 1,?_⟩;refine ve (E.ix.mv m238.1) ws238.unl qa.up (by omega) p fun h248 M i248 _ k248=>?_
   refine dy (c:=fA tx) (vs:=fA M) (k248.get0 cx) rfl fun h249 b249 u249=>?_
   exact hR _ _ ⟨M,{a with tu:=tu',lu:=lw a.lu p,S:=S'},hea,E.fx hP w238 m238 V.la k248 i248 b249 u249⟩
  ·rintro _ h251 ⟨tx',a',hea',o⟩
   have next:∀{D:ae} {ty':Tr} {b':Ed},b'.eb=eb2→ASt h P pb cb kk x (20+2*i4+1+1) D K H tx' ty' a' b'→I4 ((i4+1:Nat):Int) D:=fun{D ty' b'} hb s=>
    hI4 (i4+1,tx',ty',a',b') _ _ ⟨rfl,by omega,hea',hb,by rw[show 20+2*(i4+1)=20+2*i4+1+1 by omega];exact s⟩ (by show 20-(i4+1)<20-i4;omega)
   refine bf (fun h2=>?_) fun _=>next heb (o.mono (Nat.le_succ _))
   have h2:i4<l3.length:=by omega
   obtain⟨ad,Y,_,hv⟩:=(hs3.upd o.mv.1 fun _ h=>h.elim).at (aj h2)
   generalize l3[i4]=q at hv;have nb0:=fun{b:Nat} (hb:h251.size≤b)=>o.ws.wo.w0 hb
   refine Join.intro (fun M D=>∃bq,M=(⟨bq,0,none⟩:Addr)∧D[bq]? =some (.cells (gz (rV q)).toArray al (0,0))∧h251.size≤bq∧Upd No h251 D) (fun R3 hR3=>⟨⟨by omega,by omega⟩,ad,Y,_,hv 0 _ rfl,⟨by omega,by omega⟩,ad,Y,_,hv 1 _ rfl,Ft (hv 0 _ rfl) (hv 1 _ rfl) fun bq D c1 c2 c3=>hR3 _ _ ⟨bq,rfl,c1,c2,c3⟩⟩) ?_
   rintro _ h297 ⟨bq,rfl,C,hbq,k297⟩;have m:=o.up0 k297;have qb:=m.ws.wo.ew b (aI _ (ai.2 rfl));have hlb:=qb.len;have hc1:(rV q).1.size≤30∧(rV q).2.size≤30:=⟨lP _,lP _⟩;generalize rV q=p at C hc1;rw[←heb];have at3:(P++XY K H tx' ty)[3]? =some (jx H (fA ty) az):=by rw[bI (by omega),hP];rfl
   refine⟨by decide,CondP.intro (fun _=>?_) fun _=>?_⟩
   ·refine⟨_,vc C 0,JM (i:=1) m.ws.wo rfl o.lb (by omega) p.1 fun h300 tu' S' N z=>?_⟩
    have F:=m.ws.ed N z;have cy:h300[H]? =some (.cells (fA ty).toArray az (0,0)):=F.own.get at3;have b300:=z.1.get C (nb0 hbq);refine⟨_,vc cy 0,_,vc cy 1,_,vc cy 2,_,vc cy 3,_,vc cy 4,_,vc cy 5,_,vc b300 0,?_⟩;refine AF (m.iy.mv z.1) F.unl qb.up qb.fit (by omega) p.1 fun h309 M i309 _ U=>?_
    refine dy (c:=fA ty) (vs:=fA M) (U.get0 cy) rfl fun h310 b310 u310=>?_
    exact next (b':={b with tu:=tu',lu:=nn b.lu p.1,S:=S'}) heb (m.fy hP N z o.lb U i309 b310 u310)
   ·refine⟨_,vc C 0,_,vc C 1,Jv (i:=1) m.ws.wo rfl o.lb (by omega) p ⟨by omega,by omega⟩ fun h300 tu' S' N z=>?_⟩
    have F:=m.ws.ed N z;have cy:h300[H]? =some (.cells (fA ty).toArray az (0,0)):=F.own.get at3;have b300:=z.1.get C (nb0 hbq);refine⟨_,vc cy 0,_,vc cy 1,_,vc cy 2,_,vc cy 3,_,vc cy 4,_,vc cy 5,_,vc b300 0,_,vc b300 1,?_⟩;refine ve (m.iy.mv z.1) F.unl qb.up (by omega) p fun h309 M i309 _ U=>?_
    refine dy (c:=fA ty) (vs:=fA M) (U.get0 cy) rfl fun h310 b310 u310=>?_
    exact next (b':={b with tu:=tu',lu:=lw b.lu p,S:=S'}) heb (m.fy hP N z o.lb U i309 b310 u310)
 have qa:=V.ws.wo.ew a (ax ..);have qb:=V.ws.wo.ew b (aI _ (ai.2 rfl));have hla:=qa.len;have hlb:=qb.len;rw[←hea,←heb];refine BP (i:=0) V.ws.wo rfl V.la fun h329 w329 m329 i329=>vp (t:=a.tu) fun h331 b331 k331=>?_
 have ws331:=(V.ws.ed w329 m329).up0 k331;refine BP (i:=1) (e:=b) ws331.wo rfl V.lb fun h333 w333 m333 i333=>vp (t:=b.tu) fun h335 b335 O=>?_
 have ws335:=(ws331.ed w333 m333).up0 O;have m1:=((m329.1.up0 k331).tr m333.1).up0 O;have m2:=(Mv.up0 (Mv.tr (Mv.of0 k331) m333.1) O);have A:=O.get0 (m333.1.get b331 ((V.ws.ed w329 m329).wo.w0 (aw _)));have cx:h335[K]? =some (.cells (fA tx).toArray az (0,0)):=ws335.own.get (i:=2) (s:=jx K (fA tx) az) (by simp[hP]);have cy:h335[H]? =some (.cells (fA ty).toArray az (0,0)):=ws335.own.get (i:=3) (s:=jx H (fA ty) az) (by rw[bI (by omega),hP];rfl)
 refine aA.2 (aA.2 ⟨_,vc A 0,_,vc A 1,_,vc A 2,_,vc A 3,_,vc A 4,_,vc A 5,_,vc cx 0,_,vc cx 1,_,vc cx 2,_,vc cx 3,_,vc cx 4,_,vc cx 5,?_⟩);have ip:=i329.mv m2;have ix:=V.ix.mv m1;refine BX ip ix qa.up qa.fit (by omega) qa.up qa.fit (by omega) fun h349 Q=>?_
 rw[Ac ip ix,show decide (a.lu=a.lu)=true by simp]
 have J:=Q.get0 b335;have B:=Q.get0 cy;refine aA.2 ⟨_,vc J 0,_,vc J 1,_,vc J 2,_,vc J 3,_,vc J 4,_,vc J 5,_,vc B 0,_,vc B 1,_,vc B 2,_,vc B 3,_,vc B 4,_,vc B 5,?_⟩;have iq:=(i333.upd0 O).upd0 Q;have iy:=(V.iy.mv m1).upd0 Q;refine BX iq iy qb.up qb.fit (by omega) qb.up qb.fit (by omega) fun h363 k363=>?_
 rw[Ac iq iy,show decide (b.lu=b.lu)=true by simp]
 exact⟨rfl,(((V.mv.tr m1).up0 Q).up0 k363).1⟩
end Go.Proofs
