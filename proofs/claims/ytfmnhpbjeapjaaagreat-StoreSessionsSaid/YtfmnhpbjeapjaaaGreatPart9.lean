/- A part of the proof that the named laws of this program answer true, whatever the input. -/
import Derived.Test.YtfmnhpbjeapjaaaGreatPart8
import Derived.Test.YtfmnhpbjeapjaaaGreatPart6
import Derived.Test.YtfmnhpbjeapjaaaGreatPart4
import Derived.Test.YtfmnhpbjeapjaaaGreatPart2
open Int renaming le_refl→tR
open List renaming getElem?_eq_getElem→aA,length_map→cB,mem_map→aI,mem_append→bo,mem_singleton→ak,mem_filter→bG,nodup_nil→db
open Nat renaming zero_le→cu
namespace Go.Proofs
open Go Go.Lift
abbrev SR:=Int×Bool×Tr
abbrev QD(r:SR):List Value:= [.int .i64 r.1,.bool r.2.1]++jA r.2.2
theorem PN(r:SR):(QD r).length=8∧0<8:=⟨rfl,by decide⟩
abbrev Pt:=Int×Int×Int×Int×Int×SliceV×SliceV×SliceV×Int×SliceV
section
variable {z h h':ac} {sp vp sm pb cb:Nat} {s:VS} {last:Int} {ids:List Int} {es:List Se} {Ss:List Sp}
theorem atJ{W:Nat→Prop}{h:ac}{s:SliceV}{xs:List Int}(c:Ro W h s xs){i:Nat}(b:i<xs.length):∃a,s.a=some a∧¬W a.block∧aB h (adr a (((i:Int)).toNat*1))=some (.int .i64 xs[i]):=
 c.at0 (g:=fun x=>.int .i64 x) (aA b)
theorem Hd(w:SwAt z h sp vp sm pb cb s last ids es Ss)(hL:s.L= [])(hB:s.B= [])(hG:s.G= []){K:Pt→ac→Prop}
  (hk:∀h' ids' es' (v:Pt),v.2.2.2.2.2.2.2.2.1=last→v.2.2.2.2.2.2.2.2.2.len=es.length→es'.map Se.a=es.map Se.a→SwAt z h' sp vp sm pb cb s last ids' es' Ss→K v h'):
  HC PG iY [.pointer (some ⟨sp,0,none⟩)] [.agg [.int .i64,.int .u64,.int .u64,.int .u64,.int .u32,.slice,.slice,.slice,.int .i64,.slice]] K h:=by
 refine xF _ ?_;unfold qZ aD bT ag ad cT nv cp aF dS di dj bJ af cH bV Ob GH rE rl vl6 zl6 vl7 zl7 vl3 CL;refine bc fun h1 b1 k1=>aq.2 ?_
 have H:=w.new k1 (s':=xW h.size pt0 bF) b1 fun y d=>⟨by have d:y=h.size:=d;omega,by have d:y=h.size:=d;have:=aL b1;omega⟩
 clear w k1 b1;obtain⟨r,er⟩:∃r,r=h.size:=⟨_,rfl⟩;rw[←er]at H;refine Join.intro (fun t h'=>∃p b,t=(some ⟨p+1,0,none⟩,⟨b,0,none⟩)∧SwAt z h' sp vp sm pb cb s last ids es (xW r pt0 bF::Ss)∧Upd No h1 h'∧Gr0 h' p s.nx∧h'[b]? =some (.cells (jA s.e).toArray aR (0,0))∧h1.size≤b) (fun R hR=>⟨_,rfl,_,vc H.g.b 0,_,rfl,_,vc H.g.b 0,?_⟩) ?_
 ·have n:G1 z h1 h1 sp vp sm pb cb s last ids es (xW r pt0 bF::Ss) [] []:=⟨H,Upd.refl _ _,fun _ h=>(by cases h),fun _ h=>(by cases h)⟩
  clear hk;repeat' first
   |refine n.graph hL fun _ n=>?_
   |refine n.empty fun _ n=>?_
   |refine n.put fun _ n=>?_
   |exact n.fin H (by simp) (by simp) hR
   |exact vc n.w.g.b 0
   |refine And.intro ?_ ?_
 rintro _ Z ⟨p,eb,rfl,E,k2,T,j,z2⟩;refine Join.intro (fun t h'=>∃b B u x q A,t=⟨b,0,none⟩∧SwAt z h' sp vp sm pb cb s last ids es (xW r pt0 bF::Ss)∧Upd No Z h'∧Gr0 h' p s.nx∧h'[b]? =some (.cells (Kd B u x q A bM bM last bM).toArray bF (0,0))∧Z.size≤b)
  (fun R hR=>⟨_,vc j 0,_,vc j 1,_,vc j 2,_,vc j 3,_,vc j 4,_,vc j 5,_,vc j 0,_,vc j 1,_,vc j 2,_,vc j 3,_,vc j 4,_,vc j 5,_,rfl,_,vc E.g.b 0,_,rfl,_,vc E.g.b 0,_,rfl,_,vc E.g.b 2,?_⟩) ?_
 ·have n:P1 z Z Z sp vp sm pb cb s last ids es (xW r pt0 bF::Ss) p eb []:=⟨E,Upd.refl _ _,T,j,fun _ h=>(by cases h)⟩
  clear hk H k2;repeat' first
   |refine n.kind fun _ n=>?_
   |refine n.hash fun _ n=>?_
   |refine n.next ?_
   |refine n.br hB fun _ n=>?_
   |refine n.tg hG fun _ n=>?_
   |refine n.put fun _ n=>?_
   |exact n.fin E (by simp) hR
   |exact⟨vc n.e 0,vc n.e 1,vc n.e 2,vc n.e 3,vc n.e 4,vc n.e 5⟩
   |exact⟨vc n.e 0,vc n.e 1,vc n.e 2,vc n.e 3,vc n.e 4,vc n.e 5,vc n.e 0,vc n.e 1,vc n.e 2,vc n.e 3,vc n.e 4,vc n.e 5⟩
   |exact vc n.w.g.b 0
   |exact vc n.w.g.b 2
   |refine And.intro ?_ ?_
 rintro _ h3 ⟨C,B,u,x,q,A,rfl,w3,k3,S,b3,z3⟩;refine M5 S.at fun si h4 e4 k4=>?_
 refine LoopP.ghost (fun(_:Unit) (t:Int) h'=>t=0∧h'=h4) (fun _=>0) () ⟨rfl,rfl⟩ ?_
 rintro I _ t h' ⟨rfl,rfl⟩ _;refine ax (fun e=>absurd e (by rw[e4];decide)) fun _=>?_
 obtain⟨y1,y2,y3⟩:=E.young z3;have U:=(w3.cons (s':=xW C (Kd B u x q A bM bM last bM) bF) b3 fun y d=>by
  have d:y=C:=d
  subst d
  exact⟨aL b3,y1,y3,y2⟩).up0 k4
 refine⟨_,rfl,_,vc U.g.b 1,M0 U.g.m fun fv h5 hg k5=>?_⟩
 have few:=U.g.few;refine Is hg (by rw[cB];omega) (fun xs hx=>by rw[hx.length_eq,cB,cB];omega) fun sy h6 xs ys hx ho hp _ k6=>?_
 have F:=hp.trans hx;have hl:ys.length=es.length:=by rw[F.length_eq,cB,cB]
 have hys:∀y∈ys,∃e∈es,e.n=y:=fun y d=>by
  obtain⟨a,ha,rfl⟩:=aI.1 (F.mem_iff.1 d);obtain⟨e,N,rfl⟩:=aI.1 ha;exact⟨e,N,rfl⟩
 have w6:=(U.up0 k5).new k6 (s':=Dd F9 1 ig sy ys) ho.its ho.sub;have w7:=w6.cons (s':=Dd QD 8 gq bM []) (OwnS.nil PN) fun y d=>absurd d (PO y)
 clear w6 U w3 E H k2 T S b3 z2 z3 y1 y2 y3 k3 k4 k5 k6 ho hg j hp hx F;refine LoopP.ghost (fun(g:Nat×List Int×List Se×SliceV×List SR) (t:Int) h'=>t=(g.1:Int)∧g.1≤ys.length∧g.2.2.1.map Se.a=es.map Se.a∧g.2.2.2.2.length=g.1∧SwAt z h' sp vp sm pb cb s last g.2.1 g.2.2.1 (Dd QD 8 gq g.2.2.2.1 g.2.2.2.2::Dd F9 1 ig sy ys::xW C (Kd B u x q A bM bM last g.2.2.2.1) bF::xW r pt0 bF::Ss)) (fun g=>ys.length-g.1) (0,ids,es,bM,[])
  ⟨rfl,cu _,rfl,rfl,w7⟩ ?_
 rintro I ⟨i,V,G,sl,f⟩ t h7 ⟨rfl,hi,em,hr,w⟩ hI;simp only at hi em hr w;have oy:OwnS F9 1 ig (sb sy) h7 sy ys:=w.o.get (i:=1) rfl;have k:h7[C]? =some (.cells (Kd B u x q A bM bM last sl).toArray bF (0,0)):=w.o.get (i:=2) rfl;have ly:=oy.len;refine ax (fun o=>?_) fun hge=>?_
 ·have o:i<ys.length:=by omega
  obtain⟨a,ha,_,hv⟩:=atJ (oy.sl (W:=No) fun _ _ _ h=>h) o
  obtain⟨e0,he0,en⟩:=hys _ (List.getElem_mem o);obtain⟨e,N,ea⟩:∃e∈G,Se.a e=Se.a e0:=by
   have:Se.a e0∈G.map Se.a:=by rw[em];exact aI.2 ⟨e0,he0,rfl⟩
   exact aI.1 this
  have en:e.n=ys[i]:=by rw[←en];exact congrArg Prod.fst ea
  have lk:=w.g.m.get e.n none;rw[w.g.look N]at lk;rw[←en]at hv;obtain⟨d1,d2,_,_⟩:=w.g.ed e N;refine Join.plain ⟨by omega,a,ha,_,hv,_,rfl,_,vc w.g.b 1,_,_,lk,sl,vc k 9,wH d1 d2 ⟨vc k 9,?_⟩⟩;refine OG w N fun h8 tr Y es2 em2 X=>?_
  have L:h8[C]? =some (.cells (Kd B u x q A bM bM last sl).toArray bF (0,0)):=X.o.get (i:=2) rfl;refine⟨vc L 9,bc fun h9 b9 k9=>⟨vc (k9.get0 L) 9,?_⟩⟩
  have w9:=X.up0 k9;have os:OwnS QD 8 gq (sb sl) h9 sl f:=w9.o.get (i:=0) rfl;refine Qx (t:=(e.n, !e.lv,tr)) os b9 rfl rfl ⟨by decide,by decide⟩ (by omega) fun D h10 o10 u10 J=>?_
  have O:=w9.setP (i:=0) (s':=Dd QD 8 gq D (f++ [(e.n, !e.lv,tr)])) rfl u10 (fun y d=>.inl d) o10 J
  have Q:h10[C]? =some (.cells (Kd B u x q A bM bM last sl).toArray bF (0,0)):=O.o.get (i:=2) rfl;refine KH (i:=9) Q (by simp) rfl fun h11 P u11=>?_
  have w11:=O.setP (i:=2) (s':=xW C (Kd B u x q A bM bM last D) bF) rfl u11 (fun y d=>.inl d) P fun y d=>⟨.inl d,by have d:y=C:=d;rw[d];exact aL P⟩
  rw[gN o (by omega)];exact hI (i+1,Y,es2,D,f++ [(e.n, !e.lv,tr)]) _ _ ⟨rfl,o,em2.trans em,by simp[hr],w11⟩ (by simp only;omega)
 ·have hi:i=ys.length:=by omega
  have or:h7[r]? =some (.cells pt0.toArray bF (0,0)):=w.o.get (i:=3) rfl;subst er;refine⟨_,vc k 0,_,vc k 1,_,vc k 2,_,vc k 3,_,vc k 4,bM,vc k 5,bM,vc k 6,bM,vc k 7,_,vc k 8,sl,vc k 9,?_⟩;refine cU (c:=pt0) (vs:=Kd B u x q A bM bM last sl) or rfl fun h8 m u8=>?_
  have X:=w.setP (i:=3) (s':=xW h.size (Kd B u x q A bM bM last sl) bF) rfl u8 (fun y d=>.inl d) m fun y d=>⟨.inl d,by have d:y=h.size:=d;rw[d];exact aL m⟩
  have os:OwnS QD 8 gq (sb sl) h8 sl f:=X.o.get (i:=0) rfl;refine⟨_,vc m 0,_,vc m 1,_,vc m 2,_,vc m 3,_,vc m 4,bM,vc m 5,bM,vc m 6,bM,vc m 7,_,vc m 8,sl,vc m 9,?_⟩;exact hk h8 V G _ rfl (by show sl.len=es.length;rw[os.len,hr,hi,hl]) em X.tail.tail.tail.tail
end
end Go.Proofs
namespace Go.Proofs
open Go Go.Lift
abbrev iV(x:Int):Value:=.int .i64 x
def MQ(r:Nat)(m:List (Int×Int)):Sp:=⟨(· =r),fun h=>MapAt KI iV h r m,fun q k b=>q.upd k (b _ rfl)⟩
section
variable {z h:ac} {sp vp sm pb cb:Nat} {s:VS} {last:Int} {ids:List Int} {es:List Se} {Ss:List Sp} {o:LQ}
theorem LC(w:SwAt z h sp vp sm pb cb s last ids es Ss)(c:last≤900)(ek:o.1=14)(p:o.2.2.2.2.2.1=0){K:An→ac→Prop}
  (j:es.length=16→∀h',SwAt z h' sp vp sm pb cb s last ids es Ss→K (6,0,0,⟨#[]⟩,false,0,bM,bM,bM,bM,bM) h')
  (m:es.length<16→∀h' b e,e.n=last+1→SwAt z h' sp vp sm pb cb s (last+1) b (es++ [e]) Ss→K (0,0,last+1,⟨#[]⟩,false,0,bM,bM,bM,bM,bM) h'):
  HC PG bH [.pointer (some ⟨sp,0,none⟩),E4 o] Bj K h:=by
 have t:=w.g.o;refine Jv w.g c ek p (fun d h' k=>j d h' (w.up0 k)) fun d h' b e n _ v u g=>m d h' b e n ⟨g,w.o.away u fun y f=>?_,fun y f=>⟨(w.ap y f).1,fun q i=>?_⟩,w.k.fresh u fun y f=>?_,w.lo⟩
 ·have:=(w.ap y f).1;omega
 ·rcases bo.1 i with i|i
  ·exact(w.ap y f).2 q i
  ·rw[ak.1 i]
   have:=w.o.al f;omega
 ·have lo:=w.lo;omega
theorem Jr(w:SwAt z h sp vp sm pb cb s last ids es Ss)(ek:o.1=18){e:Se}(d:e∈es)(f:o.2.2.2.2.2.2.2.1=e.n){K:An→ac→Prop}(j:∀h' b a,SwAt z h' sp vp sm pb cb s last b (es.map (frz e.tb)) Ss→K a h'):
  HC PG bH [.pointer (some ⟨sp,0,none⟩),E4 o] Bj K h:=by
 have m:=w.g.o;refine HH w.g ek d f fun h' b k u g=>j h' b _ ⟨g,w.o.away u fun y c=>?_,fun y c=>⟨(w.ap y c).1,A8 (w.ap y c).2⟩,w.k.fresh u fun y c=>?_,w.lo⟩
 ·obtain⟨p,i⟩:=w.ap y c
  have:=(i e d).2;omega
 ·obtain⟨_,_,_,n⟩:=w.g.ed e d
  have lo:=w.lo;omega
theorem Lr(w:SwAt z h sp vp sm pb cb s last ids es Ss)(ek:o.1=20){n:Int}(f:o.2.2.2.2.2.2.2.1=n){K:An→ac→Prop}(i:(∀q∈es,q.n≠n)→∀h',SwAt z h' sp vp sm pb cb s last ids es Ss→K (4,0,0,⟨#[]⟩,false,0,bM,bM,bM,bM,bM) h')
  (m:∀e∈es,e.n=n→∀h' b,SwAt z h' sp vp sm pb cb s last b ((es.map (frz e.tb)).filter fun q=>decide (q.n≠n)) Ss→K zd h'):
  HC PG bH [.pointer (some ⟨sp,0,none⟩),E4 o] Bj K h:=by
 subst f;have v:=w.g.o;refine Ju w.g ek (fun p h' k=>i p h' (w.up0 k)) fun e d f h' b u g=>m e d f h' b ⟨g,w.o.away u fun y c=>?_,fun y c=>⟨(w.ap y c).1,fun q t=>A8 (w.ap y c).2 q (bG.1 t).1⟩,w.k.fresh u fun y c=>?_,w.lo⟩
 ·obtain⟨A,j⟩:=w.ap y c
  have:=(j e d).2;omega
 ·obtain⟨_,_,_,x⟩:=w.g.ed e d
  have lo:=w.lo;omega
end
theorem KP{kind:Int}(B:kind=0∨kind=1){x:Hs}{z h:ac}(D:Upd No z h){K:Option Addr×Int→ac→Prop}
  (I:∀h' sp m sm pb cb s,s.L= []→s.B= []→s.G= []→SwAt z h' sp m sm pb cb s 0 ((List.range 16).map fun j=>((j:Nat):Int)+1) [] []→K (some ⟨sp,0,none⟩,0) h'):
  HC PG pU [.int .i64 kind,.agg #[.int .u64 x.k0,.int .u64 x.k1,.int .u64 x.mask]] [.c .ptr,.c (.int .i64)] K h:=by
 refine Cc kind (x.k0,x.k1,x.mask) ?_;unfold xd ad Hc El;refine bc fun R b1 k1=>⟨_,vc b1 0,_,vc b1 1,_,vc b1 2,?_⟩
 have O:=k1.size;refine JS (W:=No) (x:=x) (fun _ h=>h.elim) B fun A m gp gm tm bm nm t v N Q F=>aq.2 ?_
 refine Ds (n:=16) (by omega) (by omega) fun i G C=>?_
 have p:=Upd.push No i (.map #[] 0);have k:=jN i (.map #[] 0);refine wK fun E q=>?_
 have q:E=i.push (.map #[] 0):=q;rw[←q]at p k;have P:=F.size;have L:=aL C.2.1;have H:=aL k;have S:=D.size;refine bc fun f w d=>I f E.size m i.size (A.size+1) A.size ⟨gp,gm,tm,bm,nm,kind,x,t,[],1,[],[],[]⟩ rfl rfl rfl ?_
 have b:Upd No A f:=(G.tr p).tr d;have g:=b.size;have RI:=d.size;refine⟨⟨v.re b (fun _ h=>h.elim) (fun y c=>?_) fun y c=>.inl c,fun y c=>v.size c,aL v.blk,w,⟨by omega,L,H⟩,?_,C.upd0 (p.tr d),by simp,fun e o=>(by cases o),db,db,fun e o=>(by cases o),db,cu _,by omega⟩,Own.nil,fun y ⟨a,J,_⟩=>(by cases J),((D.tr k1).tr F).tr b,by omega⟩
 ·rcases c with c|⟨c,u⟩
  ·exact⟨.inl (.inr c),Nat.lt_of_lt_of_le (v.size c) g⟩
  ·exact⟨.inr c,u⟩
 ·exact⟨[],0,⟨d.get0 k,db,db,fun _ h=>by cases h⟩,rfl⟩
end Go.Proofs
namespace Go.Proofs
open Go Go.Lift
def br(j:Nat):ByteArray:=if j=0 then⟨#[97]⟩else if j=1 then⟨#[98]⟩else⟨#[99]⟩
end Go.Proofs
namespace Go.Proofs
open Go Go.Lift
structure LM(m:List (Int×Int))(es:List Se):Prop where
 k:∀n,n∈m.map (·.1)↔n∈es.map (·.n)
 v:∀p∈m,p.2=1
section
variable {m:List (Int×Int)} {es es':List Se} {n:Int}
theorem LM.get(l:LM m es):decide ((cz m n).getD 0>0)=decide (n∈es.map (·.n)):=by
 cases hl:cz m n with
 |none=>
  rw[decide_eq_false fun h=>lh.1 hl ((l.k n).2 h)];rfl
 |some v=>
  have b:=D1 hl;rw[decide_eq_true ((l.k n).1 (aI.2 ⟨_,b,rfl⟩))];have:v=1:=l.v _ b;subst this;rfl
theorem LM.len(l:LM m es)(c:(m.map (·.1)).Nodup)(b:(es.map (·.n)).Nodup):m.length=es.length:=by
 have:=((List.perm_ext_iff_of_nodup c b).2 l.k).length_eq;simpa using this
theorem LM.add(l:LM m es){e:Se}(c:e.n=n)(hx:n∉es.map (·.n)):LM (my m n 1) (es++ [e]):=by
 rw[NQ fun h=>hx ((l.k n).1 h)]
 refine⟨fun j=>?_,fun p b=>?_⟩
 ·simp only[List.map_append,bo,List.map_cons,List.map_nil,ak,c,l.k j]
 ·rcases bo.1 b with b|b
  ·exact l.v p b
  ·rw[ak.1 b]
theorem LM.del(l:LM m es)(h:∀j,j∈es'.map (·.n)↔j∈es.map (·.n)∧j≠n):LM (sP m n) es':=by
 refine⟨fun j=>?_,fun p d=>l.v p (bG.1 d).1⟩
 rw[h j,←l.k j];unfold sP;simp only[aI,bG,decide_eq_true_eq];constructor
 ·rintro⟨p,⟨c,b⟩,rfl⟩;exact⟨⟨p,c,rfl⟩,b⟩
 ·rintro⟨⟨p,c,rfl⟩,b⟩;exact⟨p,⟨c,b⟩,rfl⟩
theorem Hz{tb:Nat}:(es.map (frz tb)).map (·.n)=es.map (·.n):=(Ko tb es).2.1
theorem LM.frz(l:LM m es){tb:Nat}:LM m (es.map (frz tb)):=⟨fun j=>by rw[Hz];exact l.k j,l.v⟩
end
section
variable {z h:ac} {sp vp sm pb cb:Nat} {s:VS} {last:Int} {ids:List Int} {es:List Se} {Ss:List Sp}
theorem Ls(w:SwAt z h sp vp sm pb cb s last ids es Ss){o:LQ}(ek:o.1=20){n:Int}(m:o.2.2.2.2.2.2.2.1=n){K:An→ac→Prop}(i:∀h' b es' (a:An),(a.1=0∧n∈es.map (·.n)∨a.1=4∧n∉es.map (·.n))→(∀j,j∈es'.map (·.n)↔j∈es.map (·.n)∧j≠n)→SwAt z h' sp vp sm pb cb s last b es' Ss→K a h'):
  HC PG bH [.pointer (some ⟨sp,0,none⟩),E4 o] Bj K h:=by
 refine Lr w ek m (fun t h' w'=>?_) fun e k p h' b w'=>?_
 ·have g:n∉es.map (·.n):=fun hm=>by obtain⟨q,u,e⟩:=aI.1 hm;exact t q u e
  exact i h' _ es _ (.inr ⟨rfl,g⟩) (fun j=>⟨fun c=>⟨c,fun e=>g (e▸c)⟩,fun c=>c.1⟩) w'
 ·refine i h' b _ zd (.inl ⟨rfl,aI.2 ⟨e,k,p⟩⟩) (fun j=>?_) w'
  rw[←Hz (es:=es) (tb:=e.tb)];generalize es.map (frz e.tb)=L;simp only[aI,bG,decide_eq_true_eq];constructor
  ·rintro⟨q,⟨d,f⟩,rfl⟩;exact⟨⟨q,d,rfl⟩,f⟩
  ·rintro⟨⟨q,d,rfl⟩,f⟩;exact⟨q,⟨d,f⟩,rfl⟩
theorem Qy(w:SwAt z h sp vp sm pb cb s last ids es Ss)(e:An){k:ac→Prop}(j:∀h',SwAt z h' sp vp sm pb cb s last ids es Ss→h'[h.size]? =some (.cells (Fv e).toArray bj (0,0))→k h'):
  At (hnew h (Fv zd) bj) fun b=>uf b (some (aV h)) 0 (Fv e)∧At (ii b (aV h) 0 (Fv e)) k:=by
 obtain⟨d,i,g⟩:=w.young (Nat.le_refl _);exact bc fun b b1 k1=>cU (c:=Fv zd) (vs:=Fv e) b1 rfl fun m b2 f=>j m ((w.up0 k1).off f d i g) b2
end
set_option maxHeartbeats 4000000 in
theorem AP{h:ac}{k:Int}{x:Hs}{P:SliceV}{os:List UInt8}(ho:Sl Ry 1 No h P os)(hk0:0≤k)(hk1:k≤255):
  HC PG qR [.int .u8 k,.agg #[.int .u64 x.k0,.int .u64 x.k1,.int .u64 x.mask],.slice P.a P.len P.cap] [.c .bool] (fun b h'=>b=true∧Upd No h h') h:=by
 refine xL k (x.k0,x.k1,x.mask) P ?_;unfold rh aD bT ag ad nv Hc El xg xi;have hkk:=Q3 hk0 hk1;generalize IntKind.wrap .i64 (Int.tmod k 2)=kind at hkk;have hso:=ho.len;refine bc fun h1 b1 k1=>Jz fun h3 k3=>aq.2 ⟨by decide,?_⟩
 have c3:=k3.get0 b1;refine⟨_,vc c3 0,_,vc c3 1,_,vc c3 2,?_⟩;refine KP hkk (x:=x) (k1.tr k3) fun D sp vp sm pb cb s hL hB hG w8=>aq.2 ?_
 refine wK fun h9 W=>?_
 have W:h9=D.push (.map #[] 0):=W;have k9:Upd No D h9:=by rw[W];exact Upd.push No D (.map #[] 0)
 have b9:h9[D.size]? =some (.map #[] 0):=by rw[W];exact jN D (.map #[] 0)
 have w9:=w8.new k9 (s':=MQ D.size []) ⟨[],0,⟨b9,db,db,fun _ h=>by cases h⟩,rfl⟩ fun y c=>⟨by have c:y=D.size:=c;omega,by have c:y=D.size:=c;have:=aL b9;omega⟩
 generalize D.size=r at w9;refine Join.intro (fun t h'=>∃ids es m,SwAt h h' sp vp sm pb cb s t ids es [MQ r m]∧LM m es) (fun R B=>?_) ?_
 ·refine LoopP.ghost (fun(g:Nat×Int×List Int×List Se×List (Int×Int)) (t:Int×Int) h'=>t=(g.2.1,(g.1:Int))∧g.1≤os.length∧g.1≤60∧0≤g.2.1∧g.2.1≤g.1∧SwAt h h' sp vp sm pb cb s g.2.1 g.2.2.1 g.2.2.2.1 [MQ r g.2.2.2.2]∧LM g.2.2.2.2 g.2.2.2.1) (fun g=>os.length-g.1) (0,0,_,[],[])
   ⟨rfl,cu _,cu _,tR _,tR _,w9,⟨fun _=>Iff.rfl,fun p hp=>by cases hp⟩⟩ ?_
  rintro I ⟨i,last,ids,es,m⟩ _ h13 ⟨rfl,hi,h60,l0,l1,w,l⟩ hI;simp only at hi h60 l0 l1 w l;refine ax (fun hlt=>?_) fun _=>B _ _ ⟨ids,es,m,w,l⟩
  have V:i<os.length:=by simp only at hlt;omega
  refine Join.plain ?_;obtain⟨ao,hao,_,hvo⟩:=(ho.upd w.k fun _ h=>h.elim).at0 (g:=fun b:UInt8=>.int .u8 (b.toNat:Int)) (aA V)
  refine⟨⟨by simp only;omega,by simp only;omega⟩,ao,hao,_,hvo,ax (fun _=>B _ _ ⟨ids,es,m,w,l⟩) fun O=>?_⟩
  simp only at O;have v:i<60:=by omega
  have m0:MapAt KI iV h13 r m:=w.o.get (i:=0) rfl;have ml:m.length=es.length:=l.len m0.nodup w.g.ndk;have few:=w.g.few;have K:IntKind.wrap .i64 ((i:Int)+1)=((i+1:Nat):Int):=gN (n:=60) v (by omega);have nl:IntKind.wrap .i64 (last+1)=last+1:=dT (by omega);refine⟨by decide,ax (fun hb=>?_) fun hb=>?_⟩
  ·refine LC (o:=(14,⟨#[]⟩,⟨#[]⟩,⟨#[]⟩,⟨#[]⟩,0,0,0,0,false,⟨#[]⟩,⟨#[]⟩,false,bM,bM)) w (by omega) rfl rfl (fun e16 Q E=>?_) fun e16 Q u e en E=>?_
   ·refine Qy E (6,0,0,⟨#[]⟩,false,0,bM,bM,bM,bM,bM) fun d z A=>?_
    have f:MapAt KI iV d r m:=z.o.get (i:=0) rfl;refine⟨_,f.len,ax (fun _=>?_) fun hn=>absurd hn (by omega)⟩
    refine Join.intro (fun t h'=>t=false∧h'=d) (fun R B=>⟨_,vc A 0,CondP.intro (fun e=>absurd e (by decide)) fun _=>⟨_,vc A 2,B _ _ ⟨by decide,rfl⟩⟩⟩) ?_
    rintro _ h26 ⟨rfl,rfl⟩;refine aq.2 ?_;simp only[K];exact hI (i+1,last,ids,es,m) _ _ ⟨rfl,V,v,l0,by simp only;omega,z,l⟩ (by simp only;omega)
   ·refine Qy E (0,0,last+1,⟨#[]⟩,false,0,bM,bM,bM,bM,bM) fun d z A=>?_
    have f:MapAt KI iV d r m:=z.o.get (i:=0) rfl;have nx:last+1∉es.map (·.n):=fun hm=>by obtain⟨q,hq,e⟩:=aI.1 hm;have:=(w.g.ky q hq).2;omega
    have gt:=f.get (last+1) 0;rw[show cz m (last+1)=none from lh.2 fun hm=>nx ((l.k _).1 hm)]at gt
    refine⟨_,f.len,ax (fun hn=>absurd hn (by omega)) fun _=>?_⟩
    simp only[nl,K];refine⟨_,_,gt,_,rfl,f.isMap,wK fun j F=>?_⟩
    have F:j=nJ d r (KI.enc (last+1)) (iV 1):=F;have X:Upd (· =r) d j:=by rw[F];exact ur d _ _ rfl
    have T:MapAt KI iV j r (my m (last+1) 1):=by rw[F];exact f.put (last+1) 1
    have Y:=z.setP (i:=0) (s':=MQ r (my m (last+1) 1)) rfl X (fun y c=>.inl c) T fun y c=>⟨.inl c,by have c:y=r:=c;rw[c];exact T.lt⟩
    have S:LM (my m (last+1) 1) (es++ [e]):=l.add en nx;have Z:j[Q.size]? =some (.cells (Fv (0,0,last+1,⟨#[]⟩,false,0,bM,bM,bM,bM,bM)).toArray bj (0,0)):=X.oth A fun e=>by
     have hr:=E.o.al (y:=r) ⟨_,ak.2 rfl,rfl⟩;omega
    refine Join.intro (fun t h'=>t=false∧h'=j) (fun R B=>⟨_,vc Z 0,CondP.intro (fun e=>absurd e (by simp)) fun _=>⟨_,vc Z 2,B _ _ ⟨by simp,rfl⟩⟩⟩) ?_
    rintro _ h35 ⟨rfl,rfl⟩;refine aq.2 ⟨by decide,?_⟩;refine CondP.intro (fun _=>?_) fun _=>?_
    ·refine Jr (o:=(18,⟨#[]⟩,⟨#[]⟩,⟨#[]⟩,⟨#[]⟩,0,0,last+1,0,false,⟨#[]⟩,⟨#[]⟩,false,bM,bM)) Y rfl (e:=e) (by simp) en.symm fun h37 G a w37=>?_
     exact hI (i+1,last+1,G,_,_) _ _ ⟨rfl,V,v,by simp only;omega,by simp only;omega,w37,S.frz⟩ (by simp only;omega)
    ·exact hI (i+1,last+1,u,_,_) _ _ ⟨rfl,V,v,by simp only;omega,by simp only;omega,Y,S⟩ (by simp only;omega)
  ·refine⟨by decide,by split<;>omega,?_⟩
   show HC PG bH _ _ _ _
   generalize IntKind.wrap .i64 (1+_)=n;refine Ls (o:=(20,⟨#[]⟩,⟨#[]⟩,⟨#[]⟩,⟨#[]⟩,0,0,n,0,false,⟨#[]⟩,⟨#[]⟩,false,bM,bM)) w rfl rfl fun h40 u es' a ha hj w40=>?_
   refine Qy w40 a fun N U L=>?_
   have J:MapAt KI iV N r m:=U.o.get (i:=0) rfl;have gt:=l.get (n:=n);have a0:(a.1==0)=decide (n∈es.map (·.n)):=by
    rcases ha with⟨H,e2⟩|⟨H,e2⟩
    ·rw[H,decide_eq_true e2];rfl
    ·rw[H,decide_eq_false e2];rfl
   refine Join.intro (fun t h'=>t=false∧h'=N) (fun R B=>⟨_,vc L 0,_,_,J.get n 0,CondP.intro (fun e=>absurd e (by rw[gt,a0];simp)) fun _=>⟨_,vc L 0,CondP.intro (fun e=>⟨_,vc L 0,B _ _ ⟨?_,rfl⟩⟩) fun _=>B _ _ ⟨rfl,rfl⟩⟩⟩) ?_
   ·rcases ha with⟨H,_⟩|⟨H,_⟩
    ·rw[H]at e;exact absurd e (by decide)
    ·rw[H];rfl
   ·rintro _ C ⟨rfl,rfl⟩
    refine aq.2 (.inr ⟨r,rfl,J.isMap,?_⟩);have u5:Upd (· =r) C (qJ C r (KI.enc n)):=AN C _ rfl
    have m5:MapAt KI iV (qJ C r (KI.enc n)) r (sP m n):=J.del n;have w5:=U.setP (i:=0) (s':=MQ r (sP m n)) rfl u5 (fun y c=>.inl c) m5 fun y c=>⟨.inl c,by have c:y=r:=c;rw[c];exact m5.lt⟩
    simp only[K];exact hI (i+1,last,u,es',sP m n) _ _ ⟨rfl,V,v,l0,by simp only;omega,w5,l.del hj⟩ (by simp only;omega)
 ·rintro last h56 ⟨ids,es,m,w,l⟩
  refine Hd w hL hB hG fun h58 ids2 es2 v2 W e10 em w2=>?_
  have m2:MapAt KI iV h58 r m:=w2.o.get (i:=0) rfl;have el:es2.length=es.length:=by have:=congrArg List.length em;simpa using this
  have ml:m.length=es.length:=l.len m2.nodup w.g.ndk;refine⟨_,m2.len,CondP.intro (fun _=>?_) fun e=>absurd e (by rw[e10,ml];simp)⟩
  exact Hd w2 hL hB hG fun h61 G es3 v3 f9 _ _ w3=>⟨by rw[f9];exact beq_self_eq_true last,w3.k⟩
end Go.Proofs
